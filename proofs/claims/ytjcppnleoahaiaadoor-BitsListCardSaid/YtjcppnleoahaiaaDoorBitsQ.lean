/- chapter 1's examples: they answer true. -/
import Derived.Test.YtjcppnleoahaiaaDoorBitsO
namespace Go.Proofs.YtjcppnleoahaiaaDoor.P
open Go.RowKit Go.Proofs.YtjcppnleoahaiaaDoorW.PrintWords Go.Proofs.YtjcppnleoahaiaaDoorW.PrintLast Go.Proofs.YtjcppnleoahaiaaDoorW.PrintMore
set_option linter.unusedVariables false
set_option linter.unusedSimpArgs false
theorem sh_l1 : listF (ofF [5, 3, 5, -1, 4096]) = [3, 5] := by decide +kernel
theorem sh_l6 : listF (minF (orF (ofF [1, 2]) (ofF [2, 9])) (ofF [1])) = [2, 9] := by decide +kernel
theorem sh_n2 : nextF (ofF [3]) 2 = 3 := by decide +kernel
theorem sh_n4 : nextF (ofF [3]) 4 = -1 := by decide +kernel
theorem sh_i8 : itemsF (ofF [1, 2, 3, 5, 6]) 0 = [(1, 3), (5, 5), (6, 6)] := by decide +kernel
theorem sh_t8 : textF (ofF [1, 2, 3, 5, 6]) = [49, 45, 51, 44, 53, 44, 54] := by
  rw [textF_join, sh_i8]
  simp only [joinT, itemT, itoa_nat, Lib.decDigits_one (show 1 < 10 by omega), Lib.decDigits_one (show 3 < 10 by omega), Lib.decDigits_one (show 5 < 10 by omega), Lib.decDigits_one (show 6 < 10 by omega)]
  decide
set_option maxRecDepth 100000 in
set_option maxHeartbeats 4000000 in
theorem shown_any (w : World) (hT : Tabs w) : Calls Tryd.prog 9 #[] w fun e w' => e = .returned (.bool true) ∧ Below w.heap.size w w' := by
  have HT := Lib.hid hT
  clear hT
  have HB : Hid (Below w.heap.size w w) := Lib.hid (Below.refl _ _)
  go_enter Tryd.func9, Tryd.ntmps9
  go_wp2_with fail
  refine (of_any _ _ [5, 3, 5, -1, 4096] _ (C_ints _ [5, 3, 5, -1, 4096] (by decide))).mono ?_
  rintro e_ w1 ⟨rfl, hb_⟩
  have nB : Hid (Below w.heap.size w w1) := Lib.hid (below_step (by (with_reducible repeat (first | apply below_alloc | apply pw_below_drewN | apply below_drew1)); exact HB.out) hb_)
  clear HB
  have HB := nB
  clear nB
  clear hb_
  obtain ⟨m1, hm_⟩ : ∃ m_ : Nat → Bool, m_ = ofF [5, 3, 5, -1, 4096] := ⟨_, rfl⟩
  rw [← hm_]
  have M_m1 := Lib.hid hm_
  clear hm_
  go_wp2_with (((with_reducible refine gate_dst (N := 1) rfl ?_); refine Stp.out ?_))
  unfold Stp
  refine wpList_var27 rfl rfl rfl rfl rfl _ rfl m1 rfl rfl ?_
  intro w2 hk_ hb_
  have K_m1 : Hid (w2.heap[w1.heap.size]? = some (.cells (cells m1) 27 (0, 0))) := Lib.hid hk_
  clear hk_
  have nB : Hid (Below w.heap.size w w2) := Lib.hid (below_step (by (with_reducible repeat (first | apply below_alloc | apply pw_below_drewN | apply below_drew1)); exact HB.out) hb_)
  clear HB
  have HB := nB
  clear nB
  clear hb_
  go_wp2_with fail
  refine (of_any _ _ [1, 2] _ (C_ints _ [1, 2] (by decide))).mono ?_
  rintro e_ w3 ⟨rfl, hb_⟩
  have nB : Hid (Below w.heap.size w w3) := Lib.hid (below_step (by (with_reducible repeat (first | apply below_alloc | apply pw_below_drewN | apply below_drew1)); exact HB.out) hb_)
  clear HB
  have HB := nB
  clear nB
  have n_m1 : Hid (w3.heap[w1.heap.size]? = some (.cells (cells m1) 27 (0, 0))) := Lib.hid (blk_below (by (with_reducible repeat (first | refine blk_drewN ?_ _ | refine blk_drew ?_ | refine blk_alloc ?_ _)); exact K_m1.out) hb_)
  clear K_m1
  have K_m1 := n_m1
  clear n_m1
  clear hb_
  obtain ⟨m2, hm_⟩ : ∃ m_ : Nat → Bool, m_ = ofF [1, 2] := ⟨_, rfl⟩
  rw [← hm_]
  have M_m2 := Lib.hid hm_
  clear hm_
  go_wp2_with fail
  refine (of_any _ _ [2, 9] _ (C_ints _ [2, 9] (by decide))).mono ?_
  rintro e_ w4 ⟨rfl, hb_⟩
  have nB : Hid (Below w.heap.size w w4) := Lib.hid (below_step (by (with_reducible repeat (first | apply below_alloc | apply pw_below_drewN | apply below_drew1)); exact HB.out) hb_)
  clear HB
  have HB := nB
  clear nB
  have n_m1 : Hid (w4.heap[w1.heap.size]? = some (.cells (cells m1) 27 (0, 0))) := Lib.hid (blk_below (by (with_reducible repeat (first | refine blk_drewN ?_ _ | refine blk_drew ?_ | refine blk_alloc ?_ _)); exact K_m1.out) hb_)
  clear K_m1
  have K_m1 := n_m1
  clear n_m1
  clear hb_
  obtain ⟨m3, hm_⟩ : ∃ m_ : Nat → Bool, m_ = ofF [2, 9] := ⟨_, rfl⟩
  rw [← hm_]
  have M_m3 := Lib.hid hm_
  clear hm_
  go_wp2_with fail
  refine (or_any m2 m3 _).mono ?_
  rintro e_ w5 ⟨rfl, hb_⟩
  have nB : Hid (Below w.heap.size w w5) := Lib.hid (below_step (by (with_reducible repeat (first | apply below_alloc | apply pw_below_drewN | apply below_drew1)); exact HB.out) hb_)
  clear HB
  have HB := nB
  clear nB
  have n_m1 : Hid (w5.heap[w1.heap.size]? = some (.cells (cells m1) 27 (0, 0))) := Lib.hid (blk_below (by (with_reducible repeat (first | refine blk_drewN ?_ _ | refine blk_drew ?_ | refine blk_alloc ?_ _)); exact K_m1.out) hb_)
  clear K_m1
  have K_m1 := n_m1
  clear n_m1
  clear hb_
  obtain ⟨m4, hm_⟩ : ∃ m_ : Nat → Bool, m_ = orF m2 m3 := ⟨_, rfl⟩
  rw [← hm_]
  have M_m4 := Lib.hid hm_
  clear hm_
  go_wp2_with fail
  refine (of_any _ _ [1] _ (C_ints _ [1] (by decide))).mono ?_
  rintro e_ w6 ⟨rfl, hb_⟩
  have nB : Hid (Below w.heap.size w w6) := Lib.hid (below_step (by (with_reducible repeat (first | apply below_alloc | apply pw_below_drewN | apply below_drew1)); exact HB.out) hb_)
  clear HB
  have HB := nB
  clear nB
  have n_m1 : Hid (w6.heap[w1.heap.size]? = some (.cells (cells m1) 27 (0, 0))) := Lib.hid (blk_below (by (with_reducible repeat (first | refine blk_drewN ?_ _ | refine blk_drew ?_ | refine blk_alloc ?_ _)); exact K_m1.out) hb_)
  clear K_m1
  have K_m1 := n_m1
  clear n_m1
  clear hb_
  obtain ⟨m5, hm_⟩ : ∃ m_ : Nat → Bool, m_ = ofF [1] := ⟨_, rfl⟩
  rw [← hm_]
  have M_m5 := Lib.hid hm_
  clear hm_
  go_wp2_with fail
  refine (minus_any m4 m5 _).mono ?_
  rintro e_ w7 ⟨rfl, hb_⟩
  have nB : Hid (Below w.heap.size w w7) := Lib.hid (below_step (by (with_reducible repeat (first | apply below_alloc | apply pw_below_drewN | apply below_drew1)); exact HB.out) hb_)
  clear HB
  have HB := nB
  clear nB
  have n_m1 : Hid (w7.heap[w1.heap.size]? = some (.cells (cells m1) 27 (0, 0))) := Lib.hid (blk_below (by (with_reducible repeat (first | refine blk_drewN ?_ _ | refine blk_drew ?_ | refine blk_alloc ?_ _)); exact K_m1.out) hb_)
  clear K_m1
  have K_m1 := n_m1
  clear n_m1
  clear hb_
  obtain ⟨m6, hm_⟩ : ∃ m_ : Nat → Bool, m_ = minF m4 m5 := ⟨_, rfl⟩
  rw [← hm_]
  have M_m6 := Lib.hid hm_
  clear hm_
  go_wp2_with (((with_reducible refine gate_dst (N := 2) rfl ?_); refine Stp.out ?_))
  unfold Stp
  refine wpList_var27 rfl rfl rfl rfl rfl _ rfl m6 rfl rfl ?_
  intro w8 hk_ hb_
  have K_m6 : Hid (w8.heap[w7.heap.size]? = some (.cells (cells m6) 27 (0, 0))) := Lib.hid hk_
  clear hk_
  have nB : Hid (Below w.heap.size w w8) := Lib.hid (below_step (by (with_reducible repeat (first | apply below_alloc | apply pw_below_drewN | apply below_drew1)); exact HB.out) hb_)
  clear HB
  have HB := nB
  clear nB
  have n_m1 : Hid (w8.heap[w1.heap.size]? = some (.cells (cells m1) 27 (0, 0))) := Lib.hid (blk_below (by (with_reducible repeat (first | refine blk_drewN ?_ _ | refine blk_drew ?_ | refine blk_alloc ?_ _)); exact K_m1.out) hb_)
  clear K_m1
  have K_m1 := n_m1
  clear n_m1
  clear hb_
  go_wp2_with fail
  refine (of_any _ _ [3] _ (C_ints _ [3] (by decide))).mono ?_
  rintro e_ w9 ⟨rfl, hb_⟩
  have nB : Hid (Below w.heap.size w w9) := Lib.hid (below_step (by (with_reducible repeat (first | apply below_alloc | apply pw_below_drewN | apply below_drew1)); exact HB.out) hb_)
  clear HB
  have HB := nB
  clear nB
  have n_m1 : Hid (w9.heap[w1.heap.size]? = some (.cells (cells m1) 27 (0, 0))) := Lib.hid (blk_below (by (with_reducible repeat (first | refine blk_drewN ?_ _ | refine blk_drew ?_ | refine blk_alloc ?_ _)); exact K_m1.out) hb_)
  clear K_m1
  have K_m1 := n_m1
  clear n_m1
  have n_m6 : Hid (w9.heap[w7.heap.size]? = some (.cells (cells m6) 27 (0, 0))) := Lib.hid (blk_below (by (with_reducible repeat (first | refine blk_drewN ?_ _ | refine blk_drew ?_ | refine blk_alloc ?_ _)); exact K_m6.out) hb_)
  clear K_m6
  have K_m6 := n_m6
  clear n_m6
  clear hb_
  obtain ⟨m7, hm_⟩ : ∃ m_ : Nat → Bool, m_ = ofF [3] := ⟨_, rfl⟩
  rw [← hm_]
  have M_m7 := Lib.hid hm_
  clear hm_
  go_wp2_with (((with_reducible refine gate_dst (N := 3) rfl ?_); refine Stp.out ?_))
  unfold Stp
  refine wpList_var27 rfl rfl rfl rfl rfl _ rfl m7 rfl rfl ?_
  intro w10 hk_ hb_
  have K_m7 : Hid (w10.heap[w9.heap.size]? = some (.cells (cells m7) 27 (0, 0))) := Lib.hid hk_
  clear hk_
  have nB : Hid (Below w.heap.size w w10) := Lib.hid (below_step (by (with_reducible repeat (first | apply below_alloc | apply pw_below_drewN | apply below_drew1)); exact HB.out) hb_)
  clear HB
  have HB := nB
  clear nB
  have n_m1 : Hid (w10.heap[w1.heap.size]? = some (.cells (cells m1) 27 (0, 0))) := Lib.hid (blk_below (by (with_reducible repeat (first | refine blk_drewN ?_ _ | refine blk_drew ?_ | refine blk_alloc ?_ _)); exact K_m1.out) hb_)
  clear K_m1
  have K_m1 := n_m1
  clear n_m1
  have n_m6 : Hid (w10.heap[w7.heap.size]? = some (.cells (cells m6) 27 (0, 0))) := Lib.hid (blk_below (by (with_reducible repeat (first | refine blk_drewN ?_ _ | refine blk_drew ?_ | refine blk_alloc ?_ _)); exact K_m6.out) hb_)
  clear K_m6
  have K_m6 := n_m6
  clear n_m6
  clear hb_
  go_wp2_with (((with_reducible refine gate_dst (N := 16) rfl ?_); refine Stp.out ?_))
  unfold Stp
  refine wpList_load27 rfl (.tmp 1) rfl _ rfl m1 K_m1.out ?_
  go_wp2_with fail
  refine (list_T m1 _ (HT.out.below (by (with_reducible repeat (first | apply below_alloc | apply pw_below_drewN | apply below_drew1)); exact HB.out) HT.out.2.2)).mono ?_
  rintro e_ w11 ⟨v_, rfl, hR_, hb_⟩
  obtain ⟨A_l1, c_l1, rfl, hc_, hC_⟩ := Kd.R_reads hR_
  have C_l1 := Lib.hid hc_
  have nB : Hid (Below w.heap.size w w11) := Lib.hid (below_step (by (with_reducible repeat (first | apply below_alloc | apply pw_below_drewN | apply below_drew1)); exact HB.out) hb_)
  clear HB
  have HB := nB
  clear nB
  have n_m1 : Hid (w11.heap[w1.heap.size]? = some (.cells (cells m1) 27 (0, 0))) := Lib.hid (blk_below (by (with_reducible repeat (first | refine blk_drewN ?_ _ | refine blk_drew ?_ | refine blk_alloc ?_ _)); exact K_m1.out) hb_)
  clear K_m1
  have K_m1 := n_m1
  clear n_m1
  have n_m6 : Hid (w11.heap[w7.heap.size]? = some (.cells (cells m6) 27 (0, 0))) := Lib.hid (blk_below (by (with_reducible repeat (first | refine blk_drewN ?_ _ | refine blk_drew ?_ | refine blk_alloc ?_ _)); exact K_m6.out) hb_)
  clear K_m6
  have K_m6 := n_m6
  clear n_m6
  have n_m7 : Hid (w11.heap[w9.heap.size]? = some (.cells (cells m7) 27 (0, 0))) := Lib.hid (blk_below (by (with_reducible repeat (first | refine blk_drewN ?_ _ | refine blk_drew ?_ | refine blk_alloc ?_ _)); exact K_m7.out) hb_)
  clear K_m7
  have K_m7 := n_m7
  clear n_m7
  have R_l1 : Hid (Kd.C (Kd.int .i64) w11 A_l1 (listF m1).length (listF m1)) := Lib.hid hC_
  clear hb_ hR_ hc_ hC_
  go_wp2_with fail
  refine (ints_same _ _ (listF m1) _ _ [3, 5] _ (by (with_reducible repeat (first | apply Kd.C_alloc | apply Kd.C_drewN | apply Kd.C_drew)); exact R_l1.out) C_l1.out (C_ints _ [3, 5] (by decide)) (by decide) (by rw [M_m1.out]; exact sh_l1)).mono ?_
  rintro e_ w12 ⟨rfl, hb_⟩
  have nB : Hid (Below w.heap.size w w12) := Lib.hid (below_step (by (with_reducible repeat (first | apply below_alloc | apply pw_below_drewN | apply below_drew1)); exact HB.out) hb_)
  clear HB
  have HB := nB
  clear nB
  have n_m1 : Hid (w12.heap[w1.heap.size]? = some (.cells (cells m1) 27 (0, 0))) := Lib.hid (blk_below (by (with_reducible repeat (first | refine blk_drewN ?_ _ | refine blk_drew ?_ | refine blk_alloc ?_ _)); exact K_m1.out) hb_)
  clear K_m1
  have K_m1 := n_m1
  clear n_m1
  have n_m6 : Hid (w12.heap[w7.heap.size]? = some (.cells (cells m6) 27 (0, 0))) := Lib.hid (blk_below (by (with_reducible repeat (first | refine blk_drewN ?_ _ | refine blk_drew ?_ | refine blk_alloc ?_ _)); exact K_m6.out) hb_)
  clear K_m6
  have K_m6 := n_m6
  clear n_m6
  have n_m7 : Hid (w12.heap[w9.heap.size]? = some (.cells (cells m7) 27 (0, 0))) := Lib.hid (blk_below (by (with_reducible repeat (first | refine blk_drewN ?_ _ | refine blk_drew ?_ | refine blk_alloc ?_ _)); exact K_m7.out) hb_)
  clear K_m7
  have K_m7 := n_m7
  clear n_m7
  have n_l1 : Hid (Kd.C (Kd.int .i64) w12 A_l1 (listF m1).length (listF m1)) := Lib.hid (Kd.C_below (by (with_reducible repeat (first | apply Kd.C_alloc | apply Kd.C_drewN | apply Kd.C_drew)); exact R_l1.out) hb_)
  clear R_l1
  have R_l1 := n_l1
  clear n_l1
  clear hb_
  clear R_l1
  go_wp2_with fail
  refine (of_any _ _ [1, 2, 3, 5, 6] _ (C_ints _ [1, 2, 3, 5, 6] (by decide))).mono ?_
  rintro e_ w13 ⟨rfl, hb_⟩
  have nB : Hid (Below w.heap.size w w13) := Lib.hid (below_step (by (with_reducible repeat (first | apply below_alloc | apply pw_below_drewN | apply below_drew1)); exact HB.out) hb_)
  clear HB
  have HB := nB
  clear nB
  have n_m1 : Hid (w13.heap[w1.heap.size]? = some (.cells (cells m1) 27 (0, 0))) := Lib.hid (blk_below (by (with_reducible repeat (first | refine blk_drewN ?_ _ | refine blk_drew ?_ | refine blk_alloc ?_ _)); exact K_m1.out) hb_)
  clear K_m1
  have K_m1 := n_m1
  clear n_m1
  have n_m6 : Hid (w13.heap[w7.heap.size]? = some (.cells (cells m6) 27 (0, 0))) := Lib.hid (blk_below (by (with_reducible repeat (first | refine blk_drewN ?_ _ | refine blk_drew ?_ | refine blk_alloc ?_ _)); exact K_m6.out) hb_)
  clear K_m6
  have K_m6 := n_m6
  clear n_m6
  have n_m7 : Hid (w13.heap[w9.heap.size]? = some (.cells (cells m7) 27 (0, 0))) := Lib.hid (blk_below (by (with_reducible repeat (first | refine blk_drewN ?_ _ | refine blk_drew ?_ | refine blk_alloc ?_ _)); exact K_m7.out) hb_)
  clear K_m7
  have K_m7 := n_m7
  clear n_m7
  clear hb_
  obtain ⟨m8, hm_⟩ : ∃ m_ : Nat → Bool, m_ = ofF [1, 2, 3, 5, 6] := ⟨_, rfl⟩
  rw [← hm_]
  have M_m8 := Lib.hid hm_
  clear hm_
  go_wp2_with fail
  refine (text_is m8 [49, 45, 51, 44, 53, 44, 54] (by rw [M_m8.out]; exact sh_t8) _ (HT.out.below (by (with_reducible repeat (first | apply below_alloc | apply pw_below_drewN | apply below_drew1)); exact HB.out) HT.out.2.2)).mono ?_
  rintro e_ w14 ⟨rfl, hb_⟩
  have nB : Hid (Below w.heap.size w w14) := Lib.hid (below_step (by (with_reducible repeat (first | apply below_alloc | apply pw_below_drewN | apply below_drew1)); exact HB.out) hb_)
  clear HB
  have HB := nB
  clear nB
  have n_m1 : Hid (w14.heap[w1.heap.size]? = some (.cells (cells m1) 27 (0, 0))) := Lib.hid (blk_below (by (with_reducible repeat (first | refine blk_drewN ?_ _ | refine blk_drew ?_ | refine blk_alloc ?_ _)); exact K_m1.out) hb_)
  clear K_m1
  have K_m1 := n_m1
  clear n_m1
  have n_m6 : Hid (w14.heap[w7.heap.size]? = some (.cells (cells m6) 27 (0, 0))) := Lib.hid (blk_below (by (with_reducible repeat (first | refine blk_drewN ?_ _ | refine blk_drew ?_ | refine blk_alloc ?_ _)); exact K_m6.out) hb_)
  clear K_m6
  have K_m6 := n_m6
  clear n_m6
  have n_m7 : Hid (w14.heap[w9.heap.size]? = some (.cells (cells m7) 27 (0, 0))) := Lib.hid (blk_below (by (with_reducible repeat (first | refine blk_drewN ?_ _ | refine blk_drew ?_ | refine blk_alloc ?_ _)); exact K_m7.out) hb_)
  clear K_m7
  have K_m7 := n_m7
  clear n_m7
  clear hb_
  go_wp2_with (((with_reducible refine gate_dst (N := 27) rfl ?_); refine Stp.out ?_))
  unfold Stp
  refine wpList_load27 rfl (.tmp 2) rfl _ rfl m6 K_m6.out ?_
  go_wp2_with fail
  refine (list_T m6 _ (HT.out.below (by (with_reducible repeat (first | apply below_alloc | apply pw_below_drewN | apply below_drew1)); exact HB.out) HT.out.2.2)).mono ?_
  rintro e_ w15 ⟨v_, rfl, hR_, hb_⟩
  obtain ⟨A_l6, c_l6, rfl, hc_, hC_⟩ := Kd.R_reads hR_
  have C_l6 := Lib.hid hc_
  have nB : Hid (Below w.heap.size w w15) := Lib.hid (below_step (by (with_reducible repeat (first | apply below_alloc | apply pw_below_drewN | apply below_drew1)); exact HB.out) hb_)
  clear HB
  have HB := nB
  clear nB
  have n_m1 : Hid (w15.heap[w1.heap.size]? = some (.cells (cells m1) 27 (0, 0))) := Lib.hid (blk_below (by (with_reducible repeat (first | refine blk_drewN ?_ _ | refine blk_drew ?_ | refine blk_alloc ?_ _)); exact K_m1.out) hb_)
  clear K_m1
  have K_m1 := n_m1
  clear n_m1
  have n_m6 : Hid (w15.heap[w7.heap.size]? = some (.cells (cells m6) 27 (0, 0))) := Lib.hid (blk_below (by (with_reducible repeat (first | refine blk_drewN ?_ _ | refine blk_drew ?_ | refine blk_alloc ?_ _)); exact K_m6.out) hb_)
  clear K_m6
  have K_m6 := n_m6
  clear n_m6
  have n_m7 : Hid (w15.heap[w9.heap.size]? = some (.cells (cells m7) 27 (0, 0))) := Lib.hid (blk_below (by (with_reducible repeat (first | refine blk_drewN ?_ _ | refine blk_drew ?_ | refine blk_alloc ?_ _)); exact K_m7.out) hb_)
  clear K_m7
  have K_m7 := n_m7
  clear n_m7
  have R_l6 : Hid (Kd.C (Kd.int .i64) w15 A_l6 (listF m6).length (listF m6)) := Lib.hid hC_
  clear hb_ hR_ hc_ hC_
  go_wp2_with fail
  refine (ints_same _ _ (listF m6) _ _ [2, 9] _ (by (with_reducible repeat (first | apply Kd.C_alloc | apply Kd.C_drewN | apply Kd.C_drew)); exact R_l6.out) C_l6.out (C_ints _ [2, 9] (by decide)) (by decide) (by rw [M_m6.out, M_m4.out, M_m5.out, M_m2.out, M_m3.out]; exact sh_l6)).mono ?_
  rintro e_ w16 ⟨rfl, hb_⟩
  have nB : Hid (Below w.heap.size w w16) := Lib.hid (below_step (by (with_reducible repeat (first | apply below_alloc | apply pw_below_drewN | apply below_drew1)); exact HB.out) hb_)
  clear HB
  have HB := nB
  clear nB
  have n_m1 : Hid (w16.heap[w1.heap.size]? = some (.cells (cells m1) 27 (0, 0))) := Lib.hid (blk_below (by (with_reducible repeat (first | refine blk_drewN ?_ _ | refine blk_drew ?_ | refine blk_alloc ?_ _)); exact K_m1.out) hb_)
  clear K_m1
  have K_m1 := n_m1
  clear n_m1
  have n_m6 : Hid (w16.heap[w7.heap.size]? = some (.cells (cells m6) 27 (0, 0))) := Lib.hid (blk_below (by (with_reducible repeat (first | refine blk_drewN ?_ _ | refine blk_drew ?_ | refine blk_alloc ?_ _)); exact K_m6.out) hb_)
  clear K_m6
  have K_m6 := n_m6
  clear n_m6
  have n_m7 : Hid (w16.heap[w9.heap.size]? = some (.cells (cells m7) 27 (0, 0))) := Lib.hid (blk_below (by (with_reducible repeat (first | refine blk_drewN ?_ _ | refine blk_drew ?_ | refine blk_alloc ?_ _)); exact K_m7.out) hb_)
  clear K_m7
  have K_m7 := n_m7
  clear n_m7
  have n_l6 : Hid (Kd.C (Kd.int .i64) w16 A_l6 (listF m6).length (listF m6)) := Lib.hid (Kd.C_below (by (with_reducible repeat (first | apply Kd.C_alloc | apply Kd.C_drewN | apply Kd.C_drew)); exact R_l6.out) hb_)
  clear R_l6
  have R_l6 := n_l6
  clear n_l6
  clear hb_
  clear R_l6
  go_wp2_with (((with_reducible refine gate_dst (N := 33) rfl ?_); refine Stp.out ?_))
  unfold Stp
  refine wpList_load27 rfl (.tmp 3) rfl _ rfl m7 K_m7.out ?_
  go_wp2_with fail
  refine (next_is m7 2 3 (by rw [M_m7.out]; exact sh_n2) _ (by omega) (HT.out.below (by (with_reducible repeat (first | apply below_alloc | apply pw_below_drewN | apply below_drew1)); exact HB.out) HT.out.2.2)).mono ?_
  rintro e_ w17 ⟨rfl, hb_⟩
  have nB : Hid (Below w.heap.size w w17) := Lib.hid (below_step (by (with_reducible repeat (first | apply below_alloc | apply pw_below_drewN | apply below_drew1)); exact HB.out) hb_)
  clear HB
  have HB := nB
  clear nB
  have n_m1 : Hid (w17.heap[w1.heap.size]? = some (.cells (cells m1) 27 (0, 0))) := Lib.hid (blk_below (by (with_reducible repeat (first | refine blk_drewN ?_ _ | refine blk_drew ?_ | refine blk_alloc ?_ _)); exact K_m1.out) hb_)
  clear K_m1
  have K_m1 := n_m1
  clear n_m1
  have n_m6 : Hid (w17.heap[w7.heap.size]? = some (.cells (cells m6) 27 (0, 0))) := Lib.hid (blk_below (by (with_reducible repeat (first | refine blk_drewN ?_ _ | refine blk_drew ?_ | refine blk_alloc ?_ _)); exact K_m6.out) hb_)
  clear K_m6
  have K_m6 := n_m6
  clear n_m6
  have n_m7 : Hid (w17.heap[w9.heap.size]? = some (.cells (cells m7) 27 (0, 0))) := Lib.hid (blk_below (by (with_reducible repeat (first | refine blk_drewN ?_ _ | refine blk_drew ?_ | refine blk_alloc ?_ _)); exact K_m7.out) hb_)
  clear K_m7
  have K_m7 := n_m7
  clear n_m7
  clear hb_
  go_wp2_with (((with_reducible refine gate_dst (N := 38) rfl ?_); refine Stp.out ?_))
  unfold Stp
  refine wpList_load27 rfl (.tmp 3) rfl _ rfl m7 K_m7.out ?_
  go_wp2_with fail
  refine (next_is m7 4 (-1) (by rw [M_m7.out]; exact sh_n4) _ (by omega) (HT.out.below (by (with_reducible repeat (first | apply below_alloc | apply pw_below_drewN | apply below_drew1)); exact HB.out) HT.out.2.2)).mono ?_
  rintro e_ w18 ⟨rfl, hb_⟩
  have nB : Hid (Below w.heap.size w w18) := Lib.hid (below_step (by (with_reducible repeat (first | apply below_alloc | apply pw_below_drewN | apply below_drew1)); exact HB.out) hb_)
  clear HB
  have HB := nB
  clear nB
  have n_m1 : Hid (w18.heap[w1.heap.size]? = some (.cells (cells m1) 27 (0, 0))) := Lib.hid (blk_below (by (with_reducible repeat (first | refine blk_drewN ?_ _ | refine blk_drew ?_ | refine blk_alloc ?_ _)); exact K_m1.out) hb_)
  clear K_m1
  have K_m1 := n_m1
  clear n_m1
  have n_m6 : Hid (w18.heap[w7.heap.size]? = some (.cells (cells m6) 27 (0, 0))) := Lib.hid (blk_below (by (with_reducible repeat (first | refine blk_drewN ?_ _ | refine blk_drew ?_ | refine blk_alloc ?_ _)); exact K_m6.out) hb_)
  clear K_m6
  have K_m6 := n_m6
  clear n_m6
  have n_m7 : Hid (w18.heap[w9.heap.size]? = some (.cells (cells m7) 27 (0, 0))) := Lib.hid (blk_below (by (with_reducible repeat (first | refine blk_drewN ?_ _ | refine blk_drew ?_ | refine blk_alloc ?_ _)); exact K_m7.out) hb_)
  clear K_m7
  have K_m7 := n_m7
  clear n_m7
  clear hb_
  go_wp2_with fail
  go_ret
  exact ⟨rfl, HB.out⟩
end Go.Proofs.YtjcppnleoahaiaaDoor.P
