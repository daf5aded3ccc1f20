/- BitsLaws, walked. -/
import Derived.Test.YtjcppnleoahaiaaDoorBitsR
namespace Go.Proofs.YtjcppnleoahaiaaDoor.P
open Go.RowKit Go.Proofs.YtjcppnleoahaiaaDoorW.PrintWords Go.Proofs.YtjcppnleoahaiaaDoorW.PrintLast Go.Proofs.YtjcppnleoahaiaaDoorW.PrintMore
set_option linter.unusedVariables false
set_option linter.unusedSimpArgs false
theorem l6_8_6 (ma mb mc : Nat → Bool) : sameF (orF ma mb) (orF mb ma) = true := sameF_of fun n => by
  simp only [orF, andF, minF]
  cases ma n <;> cases mb n <;> cases mc n <;> rfl
theorem l6_8_14 (ma mb mc : Nat → Bool) : sameF (andF ma mb) (andF mb ma) = true := sameF_of fun n => by
  simp only [orF, andF, minF]
  cases ma n <;> cases mb n <;> cases mc n <;> rfl
theorem l6_8_27 (ma mb mc : Nat → Bool) : sameF (orF ma (orF mb mc)) (orF (orF ma mb) mc) = true := sameF_of fun n => by
  simp only [orF, andF, minF]
  cases ma n <;> cases mb n <;> cases mc n <;> rfl
theorem l6_8_40 (ma mb mc : Nat → Bool) : sameF (andF ma (andF mb mc)) (andF (andF ma mb) mc) = true := sameF_of fun n => by
  simp only [orF, andF, minF]
  cases ma n <;> cases mb n <;> cases mc n <;> rfl
theorem l6_9_12 (ma mb mc : Nat → Bool) : sameF (minF (orF ma mb) mc) (orF (minF ma mc) (minF mb mc)) = true := sameF_of fun n => by
  simp only [orF, andF, minF]
  cases ma n <;> cases mb n <;> cases mc n <;> rfl
theorem l6_9_26 (ma mb mc : Nat → Bool) : sameF (andF ma (orF mb mc)) (orF (andF ma mb) (andF ma mc)) = true := sameF_of fun n => by
  simp only [orF, andF, minF]
  cases ma n <;> cases mb n <;> cases mc n <;> rfl
theorem l6_10_20 (ma mb mc : Nat → Bool) : sameF (orF (andF ma mb) ma) ma = true := sameF_of fun n => by
  simp only [orF, andF, minF]
  cases ma n <;> cases mb n <;> cases mc n <;> rfl
theorem l6_10_27 (ma mb mc : Nat → Bool) : sameF (orF ma (orF ma mb)) (orF ma mb) = true := sameF_of fun n => by
  simp only [orF, andF, minF]
  cases ma n <;> cases mb n <;> cases mc n <;> rfl
theorem l6_10_35 (ma mb mc : Nat → Bool) : ∀ n, (andF (minF ma mb) mb) n = false := fun n => by
  simp only [orF, andF, minF]
  cases ma n <;> cases mb n <;> cases mc n <;> rfl
set_option maxRecDepth 100000 in
set_option maxHeartbeats 8000000 in
theorem bitsLaws_any (A0 : Option Addr) (c0 : Nat) (l0 : List Int) (A1 : Option Addr) (c1 : Nat) (l1 : List Int) (A2 : Option Addr) (c2 : Nat) (l2 : List Int) (w : World) (hT : Tabs w) (hr0 : Kd.C (Kd.int .i64) w A0 l0.length l0) (hc0 : l0.length ≤ c0) (hr1 : Kd.C (Kd.int .i64) w A1 l1.length l1) (hc1 : l1.length ≤ c1) (hr2 : Kd.C (Kd.int .i64) w A2 l2.length l2) (hc2 : l2.length ≤ c2) :
    Calls Tryd.prog 6 #[.slice A0 l0.length c0, .slice A1 l1.length c1, .slice A2 l2.length c2] w fun e w' => e = .returned (.bool true) ∧ Below w.heap.size w w' := by
  have HT := Lib.hid hT
  have HC0 := Lib.hid hr0
  have HL0 := Lib.hid hc0
  have HC1 := Lib.hid hr1
  have HL1 := Lib.hid hc1
  have HC2 := Lib.hid hr2
  have HL2 := Lib.hid hc2
  clear hT hr0 hc0 hr1 hc1 hr2 hc2
  have HB : Hid (Below w.heap.size w w) := Lib.hid (Below.refl _ _)
  go_enter Tryd.func6, Tryd.ntmps6
  go_wp2_with fail
  refine (shown_any _ (HT.out.below (by (with_reducible repeat (first | apply below_alloc | apply pw_below_drewN | apply below_drew1)); exact HB.out) HT.out.2.2)).mono ?_
  rintro e_ w1 ⟨rfl, hb_⟩
  have nB : Hid (Below w.heap.size w w1) := Lib.hid (below_step (by (with_reducible repeat (first | apply below_alloc | apply pw_below_drewN | apply below_drew1)); exact HB.out) hb_)
  clear HB
  have HB := nB
  clear nB
  clear hb_
  by_cases hsh : shortB l0.length l1.length l2.length = true
  · have HS := Lib.hid hsh
    clear hsh
    go_wp2_with fail
    refine (short_any A0 c0 l0 A1 c1 l1 A2 c2 l2 true HS.out _ (Kd.C_below HC0.out (by (with_reducible repeat (first | apply below_alloc | apply pw_below_drewN | apply below_drew1)); exact HB.out)) HL0.out (Kd.C_below HC1.out (by (with_reducible repeat (first | apply below_alloc | apply pw_below_drewN | apply below_drew1)); exact HB.out)) HL1.out (Kd.C_below HC2.out (by (with_reducible repeat (first | apply below_alloc | apply pw_below_drewN | apply below_drew1)); exact HB.out)) HL2.out).mono ?_
    rintro e_ w2 ⟨rfl, hb_⟩
    have nB : Hid (Below w.heap.size w w2) := Lib.hid (below_step (by (with_reducible repeat (first | apply below_alloc | apply pw_below_drewN | apply below_drew1)); exact HB.out) hb_)
    clear HB
    have HB := nB
    clear nB
    clear hb_
    go_wp2_with fail
    refine (of_any A0 c0 l0 _ (Kd.C_below HC0.out (by (with_reducible repeat (first | apply below_alloc | apply pw_below_drewN | apply below_drew1)); exact HB.out))).mono ?_
    rintro e_ w3 ⟨rfl, hb_⟩
    have nB : Hid (Below w.heap.size w w3) := Lib.hid (below_step (by (with_reducible repeat (first | apply below_alloc | apply pw_below_drewN | apply below_drew1)); exact HB.out) hb_)
    clear HB
    have HB := nB
    clear nB
    clear hb_
    obtain ⟨ma, hm_⟩ : ∃ m_ : Nat → Bool, m_ = ofF l0 := ⟨_, rfl⟩
    rw [← hm_]
    have M_ma := Lib.hid hm_
    clear hm_
    go_wp2_with (((with_reducible refine gate_dst (N := 9) rfl ?_); refine Stp.out ?_))
    unfold Stp
    refine wpList_var27 rfl rfl rfl rfl rfl _ rfl ma rfl rfl ?_
    intro w4 hk_ hb_
    have K_ma : Hid (w4.heap[w3.heap.size]? = some (.cells (cells ma) 27 (0, 0))) := Lib.hid hk_
    clear hk_
    have nB : Hid (Below w.heap.size w w4) := Lib.hid (below_step (by (with_reducible repeat (first | apply below_alloc | apply pw_below_drewN | apply below_drew1)); exact HB.out) hb_)
    clear HB
    have HB := nB
    clear nB
    clear hb_
    clear M_ma
    go_wp2_with fail
    refine (of_any A1 c1 l1 _ (Kd.C_below HC1.out (by (with_reducible repeat (first | apply below_alloc | apply pw_below_drewN | apply below_drew1)); exact HB.out))).mono ?_
    rintro e_ w5 ⟨rfl, hb_⟩
    have nB : Hid (Below w.heap.size w w5) := Lib.hid (below_step (by (with_reducible repeat (first | apply below_alloc | apply pw_below_drewN | apply below_drew1)); exact HB.out) hb_)
    clear HB
    have HB := nB
    clear nB
    have n_ma : Hid (w5.heap[w3.heap.size]? = some (.cells (cells ma) 27 (0, 0))) := Lib.hid (blk_below (by (with_reducible repeat (first | refine blk_drewN ?_ _ | refine blk_drew ?_ | refine blk_alloc ?_ _)); exact K_ma.out) hb_)
    clear K_ma
    have K_ma := n_ma
    clear n_ma
    clear hb_
    obtain ⟨mb, hm_⟩ : ∃ m_ : Nat → Bool, m_ = ofF l1 := ⟨_, rfl⟩
    rw [← hm_]
    have M_mb := Lib.hid hm_
    clear hm_
    go_wp2_with (((with_reducible refine gate_dst (N := 10) rfl ?_); refine Stp.out ?_))
    unfold Stp
    refine wpList_var27 rfl rfl rfl rfl rfl _ rfl mb rfl rfl ?_
    intro w6 hk_ hb_
    have K_mb : Hid (w6.heap[w5.heap.size]? = some (.cells (cells mb) 27 (0, 0))) := Lib.hid hk_
    clear hk_
    have nB : Hid (Below w.heap.size w w6) := Lib.hid (below_step (by (with_reducible repeat (first | apply below_alloc | apply pw_below_drewN | apply below_drew1)); exact HB.out) hb_)
    clear HB
    have HB := nB
    clear nB
    have n_ma : Hid (w6.heap[w3.heap.size]? = some (.cells (cells ma) 27 (0, 0))) := Lib.hid (blk_below (by (with_reducible repeat (first | refine blk_drewN ?_ _ | refine blk_drew ?_ | refine blk_alloc ?_ _)); exact K_ma.out) hb_)
    clear K_ma
    have K_ma := n_ma
    clear n_ma
    clear hb_
    clear M_mb
    go_wp2_with fail
    refine (of_any A2 c2 l2 _ (Kd.C_below HC2.out (by (with_reducible repeat (first | apply below_alloc | apply pw_below_drewN | apply below_drew1)); exact HB.out))).mono ?_
    rintro e_ w7 ⟨rfl, hb_⟩
    have nB : Hid (Below w.heap.size w w7) := Lib.hid (below_step (by (with_reducible repeat (first | apply below_alloc | apply pw_below_drewN | apply below_drew1)); exact HB.out) hb_)
    clear HB
    have HB := nB
    clear nB
    have n_ma : Hid (w7.heap[w3.heap.size]? = some (.cells (cells ma) 27 (0, 0))) := Lib.hid (blk_below (by (with_reducible repeat (first | refine blk_drewN ?_ _ | refine blk_drew ?_ | refine blk_alloc ?_ _)); exact K_ma.out) hb_)
    clear K_ma
    have K_ma := n_ma
    clear n_ma
    have n_mb : Hid (w7.heap[w5.heap.size]? = some (.cells (cells mb) 27 (0, 0))) := Lib.hid (blk_below (by (with_reducible repeat (first | refine blk_drewN ?_ _ | refine blk_drew ?_ | refine blk_alloc ?_ _)); exact K_mb.out) hb_)
    clear K_mb
    have K_mb := n_mb
    clear n_mb
    clear hb_
    obtain ⟨mc, hm_⟩ : ∃ m_ : Nat → Bool, m_ = ofF l2 := ⟨_, rfl⟩
    rw [← hm_]
    have M_mc := Lib.hid hm_
    clear hm_
    go_wp2_with (((with_reducible refine gate_dst (N := 11) rfl ?_); refine Stp.out ?_))
    unfold Stp
    refine wpList_var27 rfl rfl rfl rfl rfl _ rfl mc rfl rfl ?_
    intro w8 hk_ hb_
    have K_mc : Hid (w8.heap[w7.heap.size]? = some (.cells (cells mc) 27 (0, 0))) := Lib.hid hk_
    clear hk_
    have nB : Hid (Below w.heap.size w w8) := Lib.hid (below_step (by (with_reducible repeat (first | apply below_alloc | apply pw_below_drewN | apply below_drew1)); exact HB.out) hb_)
    clear HB
    have HB := nB
    clear nB
    have n_ma : Hid (w8.heap[w3.heap.size]? = some (.cells (cells ma) 27 (0, 0))) := Lib.hid (blk_below (by (with_reducible repeat (first | refine blk_drewN ?_ _ | refine blk_drew ?_ | refine blk_alloc ?_ _)); exact K_ma.out) hb_)
    clear K_ma
    have K_ma := n_ma
    clear n_ma
    have n_mb : Hid (w8.heap[w5.heap.size]? = some (.cells (cells mb) 27 (0, 0))) := Lib.hid (blk_below (by (with_reducible repeat (first | refine blk_drewN ?_ _ | refine blk_drew ?_ | refine blk_alloc ?_ _)); exact K_mb.out) hb_)
    clear K_mb
    have K_mb := n_mb
    clear n_mb
    clear hb_
    clear M_mc
    go_wp2_with fail
    refine start_ (n := 43) (S := fun w' => (loadVar 27 ⟨w3.heap.size, 0, none⟩).run Tryd.prog w' = .ok (.agg (cells ma)) w' ∧ (loadVar 27 ⟨w5.heap.size, 0, none⟩).run Tryd.prog w' = .ok (.agg (cells mb)) w' ∧ (loadVar 27 ⟨w7.heap.size, 0, none⟩).run Tryd.prog w' = .ok (.agg (cells mc)) w') (ds := []) #[false, false, false, false, false, false, false, false, false, false, false, false, false, false, false, false, false, false, false, false, false, false, false, false, false, false, false, false, false, false, false, false, false, false, false, false, false, false, false, false, false, false, false] (by kernel_rfl) rfl rfl ⟨load27 (blk_drew K_ma.out), load27 (blk_drew K_mb.out), load27 (blk_drew K_mc.out)⟩ (fun hHeld => ?_)
    refine take_ (i := 0) (N := some 32) (v := ?_) (a' := ?_) #[true, false, false, false, false, false, false, false, false, false, false, false, false, false, false, false, false, false, false, false, false, false, false, false, false, false, false, false, false, false, false, false, false, false, false, false, false, false, false, false, false, false, false] rfl rfl (by kernel_rfl) (fun _ _ _ h => h) (Or.inl ⟨by rfl, ?_⟩) hHeld ?_ ?_
    rotate_left
    · rintro w' ⟨s0, s1, s2⟩
      refine (exec_load _ _ 27 (.tmp 9) _ _ _ (by rfl) (by rfl) s0).trans ?_
      with_reducible rfl
    rotate_left
    · simp only [Act.put, List.setIfInBounds_toArray, List.set_cons_zero, List.set_cons_succ, i64_w, i32_w]
      rfl
    refine take_ (i := 1) (N := some 33) (v := ?_) (a' := ?_) #[true, true, false, false, false, false, false, false, false, false, false, false, false, false, false, false, false, false, false, false, false, false, false, false, false, false, false, false, false, false, false, false, false, false, false, false, false, false, false, false, false, false, false] rfl rfl (by kernel_rfl) (fun _ _ _ h => h) (Or.inl ⟨by rfl, ?_⟩) hHeld ?_ ?_
    rotate_left
    · rintro w' ⟨s0, s1, s2⟩
      refine (exec_load _ _ 27 (.tmp 10) _ _ _ (by rfl) (by rfl) s1).trans ?_
      with_reducible rfl
    rotate_left
    · simp only [Act.put, List.setIfInBounds_toArray, List.set_cons_zero, List.set_cons_succ, i64_w, i32_w]
      rfl
    refine take_ (i := 3) (N := some 35) (v := ?_) (a' := ?_) #[true, true, false, true, false, false, false, false, false, false, false, false, false, false, false, false, false, false, false, false, false, false, false, false, false, false, false, false, false, false, false, false, false, false, false, false, false, false, false, false, false, false, false] rfl rfl (by kernel_rfl) (fun _ _ _ h => h) (Or.inl ⟨by rfl, ?_⟩) hHeld ?_ ?_
    rotate_left
    · rintro w' ⟨s0, s1, s2⟩
      refine (exec_load _ _ 27 (.tmp 10) _ _ _ (by rfl) (by rfl) s1).trans ?_
      with_reducible rfl
    rotate_left
    · simp only [Act.put, List.setIfInBounds_toArray, List.set_cons_zero, List.set_cons_succ, i64_w, i32_w]
      rfl
    refine take_ (i := 4) (N := some 36) (v := ?_) (a' := ?_) #[true, true, false, true, true, false, false, false, false, false, false, false, false, false, false, false, false, false, false, false, false, false, false, false, false, false, false, false, false, false, false, false, false, false, false, false, false, false, false, false, false, false, false] rfl rfl (by kernel_rfl) (fun _ _ _ h => h) (Or.inl ⟨by rfl, ?_⟩) hHeld ?_ ?_
    rotate_left
    · rintro w' ⟨s0, s1, s2⟩
      refine (exec_load _ _ 27 (.tmp 9) _ _ _ (by rfl) (by rfl) s0).trans ?_
      with_reducible rfl
    rotate_left
    · simp only [Act.put, List.setIfInBounds_toArray, List.set_cons_zero, List.set_cons_succ, i64_w, i32_w]
      rfl
    refine one_ (i := 2) (N := some 34) #[true, true, true, true, true, false, false, false, false, false, false, false, false, false, false, false, false, false, false, false, false, false, false, false, false, false, false, false, false, false, false, false, false, false, false, false, false, false, false, false, false, false, false] rfl rfl (by kernel_rfl) (by decide) (fun K hK => ?_)
    refine goes_ Tryd.func24 (by kernel_rfl) rfl #[.agg (cells ma), .agg (cells mb)] (by rfl) rfl rfl (by simp only [List.map_toArray, List.map_cons, List.map_nil]; rfl) ?_
    with_reducible refine (or_any ma mb _).mono ?_
    rintro e_ w9 ⟨rfl, hb_⟩
    refine ⟨_, rfl, ?_⟩
    have B_w9 := Lib.hid (below_step ((below_drew HB.out)) hb_)
    have K_ma_w9 := Lib.hid (blk_below (blk_drew K_ma.out) hb_)
    have K_mb_w9 := Lib.hid (blk_below (blk_drew K_mb.out) hb_)
    have K_mc_w9 := Lib.hid (blk_below (blk_drew K_mc.out) hb_)
    clear hb_
    refine hK.out _ _ ⟨load27 K_ma_w9.out, load27 K_mb_w9.out, load27 K_mc_w9.out⟩ (fun hHeld => ?_)
    clear hK K
    refine norm_ (a' := ?_) ?_ ?_
    rotate_left
    · show Act.put _ (some 34) _ = _
      simp only [Act.put, List.setIfInBounds_toArray, List.set_cons_zero, List.set_cons_succ, i64_w, i32_w]
      rfl
    refine one_ (i := 5) (N := some 37) #[true, true, true, true, true, true, false, false, false, false, false, false, false, false, false, false, false, false, false, false, false, false, false, false, false, false, false, false, false, false, false, false, false, false, false, false, false, false, false, false, false, false, false] rfl rfl (by kernel_rfl) (by decide) (fun K hK => ?_)
    refine goes_ Tryd.func24 (by kernel_rfl) rfl #[.agg (cells mb), .agg (cells ma)] (by rfl) rfl rfl (by simp only [List.map_toArray, List.map_cons, List.map_nil]; rfl) ?_
    with_reducible refine (or_any mb ma _).mono ?_
    rintro e_ w10 ⟨rfl, hb_⟩
    refine ⟨_, rfl, ?_⟩
    have B_w10 := Lib.hid (below_step (B_w9.out) hb_)
    have K_ma_w10 := Lib.hid (blk_below (K_ma_w9.out) hb_)
    have K_mb_w10 := Lib.hid (blk_below (K_mb_w9.out) hb_)
    have K_mc_w10 := Lib.hid (blk_below (K_mc_w9.out) hb_)
    clear hb_
    clear B_w9 K_ma_w9 K_mb_w9 K_mc_w9
    refine hK.out _ _ ⟨load27 K_ma_w10.out, load27 K_mb_w10.out, load27 K_mc_w10.out⟩ (fun hHeld => ?_)
    clear hK K
    refine norm_ (a' := ?_) ?_ ?_
    rotate_left
    · show Act.put _ (some 37) _ = _
      simp only [Act.put, List.setIfInBounds_toArray, List.set_cons_zero, List.set_cons_succ, i64_w, i32_w]
      rfl
    refine one_ (i := 6) (N := some 38) #[true, true, true, true, true, true, true, false, false, false, false, false, false, false, false, false, false, false, false, false, false, false, false, false, false, false, false, false, false, false, false, false, false, false, false, false, false, false, false, false, false, false, false] rfl rfl (by kernel_rfl) (by decide) (fun K hK => ?_)
    refine goes_ Tryd.func28 (by kernel_rfl) rfl #[.agg (cells (orF ma mb)), .agg (cells (orF mb ma))] (by rfl) rfl rfl (by simp only [List.map_toArray, List.map_cons, List.map_nil]; rfl) ?_
    with_reducible refine (same_is (orF ma mb) (orF mb ma) true (l6_8_6 ma mb mc) _).mono ?_
    rintro e_ w11 ⟨rfl, hb_⟩
    refine ⟨_, rfl, ?_⟩
    have B_w11 := Lib.hid (below_step (B_w10.out) hb_)
    have K_ma_w11 := Lib.hid (blk_below (K_ma_w10.out) hb_)
    have K_mb_w11 := Lib.hid (blk_below (K_mb_w10.out) hb_)
    have K_mc_w11 := Lib.hid (blk_below (K_mc_w10.out) hb_)
    clear hb_
    clear B_w10 K_ma_w10 K_mb_w10 K_mc_w10
    refine hK.out _ _ ⟨load27 K_ma_w11.out, load27 K_mb_w11.out, load27 K_mc_w11.out⟩ (fun hHeld => ?_)
    clear hK K
    refine norm_ (a' := ?_) ?_ ?_
    rotate_left
    · show Act.put _ (some 38) _ = _
      simp only [Act.put, List.setIfInBounds_toArray, List.set_cons_zero, List.set_cons_succ, i64_w, i32_w]
      rfl
    refine pure_ (i := 7) (N := some 39) (v := ?_) (a' := ?_) #[true, true, true, true, true, true, true, true, false, false, false, false, false, false, false, false, false, false, false, false, false, false, false, false, false, false, false, false, false, false, false, false, false, false, false, false, false, false, false, false, false, false, false] rfl rfl (by kernel_rfl) (fun _ _ _ h => h) (Or.inl ⟨by rfl, ?_⟩) ?_ ?_
    rotate_left
    · intro w'
      go_simp
      with_reducible rfl
    rotate_left
    · simp only [Act.put, List.setIfInBounds_toArray, List.set_cons_zero, List.set_cons_succ, i64_w, i32_w]
      rfl
    refine take_ (i := 8) (N := some 40) (v := ?_) (a' := ?_) #[true, true, true, true, true, true, true, true, true, false, false, false, false, false, false, false, false, false, false, false, false, false, false, false, false, false, false, false, false, false, false, false, false, false, false, false, false, false, false, false, false, false, false] rfl rfl (by kernel_rfl) (fun _ _ _ h => h) (Or.inl ⟨by rfl, ?_⟩) hHeld ?_ ?_
    rotate_left
    · rintro w' ⟨s0, s1, s2⟩
      refine (exec_load _ _ 27 (.tmp 9) _ _ _ (by rfl) (by rfl) s0).trans ?_
      with_reducible rfl
    rotate_left
    · simp only [Act.put, List.setIfInBounds_toArray, List.set_cons_zero, List.set_cons_succ, i64_w, i32_w]
      rfl
    refine take_ (i := 9) (N := some 41) (v := ?_) (a' := ?_) #[true, true, true, true, true, true, true, true, true, true, false, false, false, false, false, false, false, false, false, false, false, false, false, false, false, false, false, false, false, false, false, false, false, false, false, false, false, false, false, false, false, false, false] rfl rfl (by kernel_rfl) (fun _ _ _ h => h) (Or.inl ⟨by rfl, ?_⟩) hHeld ?_ ?_
    rotate_left
    · rintro w' ⟨s0, s1, s2⟩
      refine (exec_load _ _ 27 (.tmp 10) _ _ _ (by rfl) (by rfl) s1).trans ?_
      with_reducible rfl
    rotate_left
    · simp only [Act.put, List.setIfInBounds_toArray, List.set_cons_zero, List.set_cons_succ, i64_w, i32_w]
      rfl
    refine take_ (i := 11) (N := some 43) (v := ?_) (a' := ?_) #[true, true, true, true, true, true, true, true, true, true, false, true, false, false, false, false, false, false, false, false, false, false, false, false, false, false, false, false, false, false, false, false, false, false, false, false, false, false, false, false, false, false, false] rfl rfl (by kernel_rfl) (fun _ _ _ h => h) (Or.inl ⟨by rfl, ?_⟩) hHeld ?_ ?_
    rotate_left
    · rintro w' ⟨s0, s1, s2⟩
      refine (exec_load _ _ 27 (.tmp 10) _ _ _ (by rfl) (by rfl) s1).trans ?_
      with_reducible rfl
    rotate_left
    · simp only [Act.put, List.setIfInBounds_toArray, List.set_cons_zero, List.set_cons_succ, i64_w, i32_w]
      rfl
    refine take_ (i := 12) (N := some 44) (v := ?_) (a' := ?_) #[true, true, true, true, true, true, true, true, true, true, false, true, true, false, false, false, false, false, false, false, false, false, false, false, false, false, false, false, false, false, false, false, false, false, false, false, false, false, false, false, false, false, false] rfl rfl (by kernel_rfl) (fun _ _ _ h => h) (Or.inl ⟨by rfl, ?_⟩) hHeld ?_ ?_
    rotate_left
    · rintro w' ⟨s0, s1, s2⟩
      refine (exec_load _ _ 27 (.tmp 9) _ _ _ (by rfl) (by rfl) s0).trans ?_
      with_reducible rfl
    rotate_left
    · simp only [Act.put, List.setIfInBounds_toArray, List.set_cons_zero, List.set_cons_succ, i64_w, i32_w]
      rfl
    refine one_ (i := 10) (N := some 42) #[true, true, true, true, true, true, true, true, true, true, true, true, true, false, false, false, false, false, false, false, false, false, false, false, false, false, false, false, false, false, false, false, false, false, false, false, false, false, false, false, false, false, false] rfl rfl (by kernel_rfl) (by decide) (fun K hK => ?_)
    refine goes_ Tryd.func26 (by kernel_rfl) rfl #[.agg (cells ma), .agg (cells mb)] (by rfl) rfl rfl (by simp only [List.map_toArray, List.map_cons, List.map_nil]; rfl) ?_
    with_reducible refine (and_any ma mb _).mono ?_
    rintro e_ w12 ⟨rfl, hb_⟩
    refine ⟨_, rfl, ?_⟩
    have B_w12 := Lib.hid (below_step (B_w11.out) hb_)
    have K_ma_w12 := Lib.hid (blk_below (K_ma_w11.out) hb_)
    have K_mb_w12 := Lib.hid (blk_below (K_mb_w11.out) hb_)
    have K_mc_w12 := Lib.hid (blk_below (K_mc_w11.out) hb_)
    clear hb_
    clear B_w11 K_ma_w11 K_mb_w11 K_mc_w11
    refine hK.out _ _ ⟨load27 K_ma_w12.out, load27 K_mb_w12.out, load27 K_mc_w12.out⟩ (fun hHeld => ?_)
    clear hK K
    refine norm_ (a' := ?_) ?_ ?_
    rotate_left
    · show Act.put _ (some 42) _ = _
      simp only [Act.put, List.setIfInBounds_toArray, List.set_cons_zero, List.set_cons_succ, i64_w, i32_w]
      rfl
    refine one_ (i := 13) (N := some 45) #[true, true, true, true, true, true, true, true, true, true, true, true, true, true, false, false, false, false, false, false, false, false, false, false, false, false, false, false, false, false, false, false, false, false, false, false, false, false, false, false, false, false, false] rfl rfl (by kernel_rfl) (by decide) (fun K hK => ?_)
    refine goes_ Tryd.func26 (by kernel_rfl) rfl #[.agg (cells mb), .agg (cells ma)] (by rfl) rfl rfl (by simp only [List.map_toArray, List.map_cons, List.map_nil]; rfl) ?_
    with_reducible refine (and_any mb ma _).mono ?_
    rintro e_ w13 ⟨rfl, hb_⟩
    refine ⟨_, rfl, ?_⟩
    have B_w13 := Lib.hid (below_step (B_w12.out) hb_)
    have K_ma_w13 := Lib.hid (blk_below (K_ma_w12.out) hb_)
    have K_mb_w13 := Lib.hid (blk_below (K_mb_w12.out) hb_)
    have K_mc_w13 := Lib.hid (blk_below (K_mc_w12.out) hb_)
    clear hb_
    clear B_w12 K_ma_w12 K_mb_w12 K_mc_w12
    refine hK.out _ _ ⟨load27 K_ma_w13.out, load27 K_mb_w13.out, load27 K_mc_w13.out⟩ (fun hHeld => ?_)
    clear hK K
    refine norm_ (a' := ?_) ?_ ?_
    rotate_left
    · show Act.put _ (some 45) _ = _
      simp only [Act.put, List.setIfInBounds_toArray, List.set_cons_zero, List.set_cons_succ, i64_w, i32_w]
      rfl
    refine one_ (i := 14) (N := some 46) #[true, true, true, true, true, true, true, true, true, true, true, true, true, true, true, false, false, false, false, false, false, false, false, false, false, false, false, false, false, false, false, false, false, false, false, false, false, false, false, false, false, false, false] rfl rfl (by kernel_rfl) (by decide) (fun K hK => ?_)
    refine goes_ Tryd.func28 (by kernel_rfl) rfl #[.agg (cells (andF ma mb)), .agg (cells (andF mb ma))] (by rfl) rfl rfl (by simp only [List.map_toArray, List.map_cons, List.map_nil]; rfl) ?_
    with_reducible refine (same_is (andF ma mb) (andF mb ma) true (l6_8_14 ma mb mc) _).mono ?_
    rintro e_ w14 ⟨rfl, hb_⟩
    refine ⟨_, rfl, ?_⟩
    have B_w14 := Lib.hid (below_step (B_w13.out) hb_)
    have K_ma_w14 := Lib.hid (blk_below (K_ma_w13.out) hb_)
    have K_mb_w14 := Lib.hid (blk_below (K_mb_w13.out) hb_)
    have K_mc_w14 := Lib.hid (blk_below (K_mc_w13.out) hb_)
    clear hb_
    clear B_w13 K_ma_w13 K_mb_w13 K_mc_w13
    refine hK.out _ _ ⟨load27 K_ma_w14.out, load27 K_mb_w14.out, load27 K_mc_w14.out⟩ (fun hHeld => ?_)
    clear hK K
    refine norm_ (a' := ?_) ?_ ?_
    rotate_left
    · show Act.put _ (some 46) _ = _
      simp only [Act.put, List.setIfInBounds_toArray, List.set_cons_zero, List.set_cons_succ, i64_w, i32_w]
      rfl
    refine pure_ (i := 15) (N := some 47) (v := ?_) (a' := ?_) #[true, true, true, true, true, true, true, true, true, true, true, true, true, true, true, true, false, false, false, false, false, false, false, false, false, false, false, false, false, false, false, false, false, false, false, false, false, false, false, false, false, false, false] rfl rfl (by kernel_rfl) (fun _ _ _ h => h) (Or.inl ⟨by rfl, ?_⟩) ?_ ?_
    rotate_left
    · intro w'
      go_simp
      with_reducible rfl
    rotate_left
    · simp only [Act.put, List.setIfInBounds_toArray, List.set_cons_zero, List.set_cons_succ, i64_w, i32_w]
      rfl
    refine pure_ (i := 16) (N := some 48) (v := ?_) (a' := ?_) #[true, true, true, true, true, true, true, true, true, true, true, true, true, true, true, true, true, false, false, false, false, false, false, false, false, false, false, false, false, false, false, false, false, false, false, false, false, false, false, false, false, false, false] rfl rfl (by kernel_rfl) (fun _ _ _ h => h) (Or.inl ⟨by rfl, ?_⟩) ?_ ?_
    rotate_left
    · intro w'
      go_simp
      with_reducible rfl
    rotate_left
    · simp only [Act.put, List.setIfInBounds_toArray, List.set_cons_zero, List.set_cons_succ, i64_w, i32_w]
      rfl
    refine take_ (i := 17) (N := some 49) (v := ?_) (a' := ?_) #[true, true, true, true, true, true, true, true, true, true, true, true, true, true, true, true, true, true, false, false, false, false, false, false, false, false, false, false, false, false, false, false, false, false, false, false, false, false, false, false, false, false, false] rfl rfl (by kernel_rfl) (fun _ _ _ h => h) (Or.inl ⟨by rfl, ?_⟩) hHeld ?_ ?_
    rotate_left
    · rintro w' ⟨s0, s1, s2⟩
      refine (exec_load _ _ 27 (.tmp 9) _ _ _ (by rfl) (by rfl) s0).trans ?_
      with_reducible rfl
    rotate_left
    · simp only [Act.put, List.setIfInBounds_toArray, List.set_cons_zero, List.set_cons_succ, i64_w, i32_w]
      rfl
    refine take_ (i := 18) (N := some 50) (v := ?_) (a' := ?_) #[true, true, true, true, true, true, true, true, true, true, true, true, true, true, true, true, true, true, true, false, false, false, false, false, false, false, false, false, false, false, false, false, false, false, false, false, false, false, false, false, false, false, false] rfl rfl (by kernel_rfl) (fun _ _ _ h => h) (Or.inl ⟨by rfl, ?_⟩) hHeld ?_ ?_
    rotate_left
    · rintro w' ⟨s0, s1, s2⟩
      refine (exec_load _ _ 27 (.tmp 10) _ _ _ (by rfl) (by rfl) s1).trans ?_
      with_reducible rfl
    rotate_left
    · simp only [Act.put, List.setIfInBounds_toArray, List.set_cons_zero, List.set_cons_succ, i64_w, i32_w]
      rfl
    refine take_ (i := 19) (N := some 51) (v := ?_) (a' := ?_) #[true, true, true, true, true, true, true, true, true, true, true, true, true, true, true, true, true, true, true, true, false, false, false, false, false, false, false, false, false, false, false, false, false, false, false, false, false, false, false, false, false, false, false] rfl rfl (by kernel_rfl) (fun _ _ _ h => h) (Or.inl ⟨by rfl, ?_⟩) hHeld ?_ ?_
    rotate_left
    · rintro w' ⟨s0, s1, s2⟩
      refine (exec_load _ _ 27 (.tmp 11) _ _ _ (by rfl) (by rfl) s2).trans ?_
      with_reducible rfl
    rotate_left
    · simp only [Act.put, List.setIfInBounds_toArray, List.set_cons_zero, List.set_cons_succ, i64_w, i32_w]
      rfl
    refine take_ (i := 22) (N := some 54) (v := ?_) (a' := ?_) #[true, true, true, true, true, true, true, true, true, true, true, true, true, true, true, true, true, true, true, true, false, false, true, false, false, false, false, false, false, false, false, false, false, false, false, false, false, false, false, false, false, false, false] rfl rfl (by kernel_rfl) (fun _ _ _ h => h) (Or.inl ⟨by rfl, ?_⟩) hHeld ?_ ?_
    rotate_left
    · rintro w' ⟨s0, s1, s2⟩
      refine (exec_load _ _ 27 (.tmp 9) _ _ _ (by rfl) (by rfl) s0).trans ?_
      with_reducible rfl
    rotate_left
    · simp only [Act.put, List.setIfInBounds_toArray, List.set_cons_zero, List.set_cons_succ, i64_w, i32_w]
      rfl
    refine take_ (i := 23) (N := some 55) (v := ?_) (a' := ?_) #[true, true, true, true, true, true, true, true, true, true, true, true, true, true, true, true, true, true, true, true, false, false, true, true, false, false, false, false, false, false, false, false, false, false, false, false, false, false, false, false, false, false, false] rfl rfl (by kernel_rfl) (fun _ _ _ h => h) (Or.inl ⟨by rfl, ?_⟩) hHeld ?_ ?_
    rotate_left
    · rintro w' ⟨s0, s1, s2⟩
      refine (exec_load _ _ 27 (.tmp 10) _ _ _ (by rfl) (by rfl) s1).trans ?_
      with_reducible rfl
    rotate_left
    · simp only [Act.put, List.setIfInBounds_toArray, List.set_cons_zero, List.set_cons_succ, i64_w, i32_w]
      rfl
    refine take_ (i := 25) (N := some 57) (v := ?_) (a' := ?_) #[true, true, true, true, true, true, true, true, true, true, true, true, true, true, true, true, true, true, true, true, false, false, true, true, false, true, false, false, false, false, false, false, false, false, false, false, false, false, false, false, false, false, false] rfl rfl (by kernel_rfl) (fun _ _ _ h => h) (Or.inl ⟨by rfl, ?_⟩) hHeld ?_ ?_
    rotate_left
    · rintro w' ⟨s0, s1, s2⟩
      refine (exec_load _ _ 27 (.tmp 11) _ _ _ (by rfl) (by rfl) s2).trans ?_
      with_reducible rfl
    rotate_left
    · simp only [Act.put, List.setIfInBounds_toArray, List.set_cons_zero, List.set_cons_succ, i64_w, i32_w]
      rfl
    refine one_ (i := 20) (N := some 52) #[true, true, true, true, true, true, true, true, true, true, true, true, true, true, true, true, true, true, true, true, true, false, true, true, false, true, false, false, false, false, false, false, false, false, false, false, false, false, false, false, false, false, false] rfl rfl (by kernel_rfl) (by decide) (fun K hK => ?_)
    refine goes_ Tryd.func24 (by kernel_rfl) rfl #[.agg (cells mb), .agg (cells mc)] (by rfl) rfl rfl (by simp only [List.map_toArray, List.map_cons, List.map_nil]; rfl) ?_
    with_reducible refine (or_any mb mc _).mono ?_
    rintro e_ w15 ⟨rfl, hb_⟩
    refine ⟨_, rfl, ?_⟩
    have B_w15 := Lib.hid (below_step (B_w14.out) hb_)
    have K_ma_w15 := Lib.hid (blk_below (K_ma_w14.out) hb_)
    have K_mb_w15 := Lib.hid (blk_below (K_mb_w14.out) hb_)
    have K_mc_w15 := Lib.hid (blk_below (K_mc_w14.out) hb_)
    clear hb_
    clear B_w14 K_ma_w14 K_mb_w14 K_mc_w14
    refine hK.out _ _ ⟨load27 K_ma_w15.out, load27 K_mb_w15.out, load27 K_mc_w15.out⟩ (fun hHeld => ?_)
    clear hK K
    refine norm_ (a' := ?_) ?_ ?_
    rotate_left
    · show Act.put _ (some 52) _ = _
      simp only [Act.put, List.setIfInBounds_toArray, List.set_cons_zero, List.set_cons_succ, i64_w, i32_w]
      rfl
    refine one_ (i := 21) (N := some 53) #[true, true, true, true, true, true, true, true, true, true, true, true, true, true, true, true, true, true, true, true, true, true, true, true, false, true, false, false, false, false, false, false, false, false, false, false, false, false, false, false, false, false, false] rfl rfl (by kernel_rfl) (by decide) (fun K hK => ?_)
    refine goes_ Tryd.func24 (by kernel_rfl) rfl #[.agg (cells ma), .agg (cells (orF mb mc))] (by rfl) rfl rfl (by simp only [List.map_toArray, List.map_cons, List.map_nil]; rfl) ?_
    with_reducible refine (or_any ma (orF mb mc) _).mono ?_
    rintro e_ w16 ⟨rfl, hb_⟩
    refine ⟨_, rfl, ?_⟩
    have B_w16 := Lib.hid (below_step (B_w15.out) hb_)
    have K_ma_w16 := Lib.hid (blk_below (K_ma_w15.out) hb_)
    have K_mb_w16 := Lib.hid (blk_below (K_mb_w15.out) hb_)
    have K_mc_w16 := Lib.hid (blk_below (K_mc_w15.out) hb_)
    clear hb_
    clear B_w15 K_ma_w15 K_mb_w15 K_mc_w15
    refine hK.out _ _ ⟨load27 K_ma_w16.out, load27 K_mb_w16.out, load27 K_mc_w16.out⟩ (fun hHeld => ?_)
    clear hK K
    refine norm_ (a' := ?_) ?_ ?_
    rotate_left
    · show Act.put _ (some 53) _ = _
      simp only [Act.put, List.setIfInBounds_toArray, List.set_cons_zero, List.set_cons_succ, i64_w, i32_w]
      rfl
    refine one_ (i := 24) (N := some 56) #[true, true, true, true, true, true, true, true, true, true, true, true, true, true, true, true, true, true, true, true, true, true, true, true, true, true, false, false, false, false, false, false, false, false, false, false, false, false, false, false, false, false, false] rfl rfl (by kernel_rfl) (by decide) (fun K hK => ?_)
    refine goes_ Tryd.func24 (by kernel_rfl) rfl #[.agg (cells ma), .agg (cells mb)] (by rfl) rfl rfl (by simp only [List.map_toArray, List.map_cons, List.map_nil]; rfl) ?_
    with_reducible refine (or_any ma mb _).mono ?_
    rintro e_ w17 ⟨rfl, hb_⟩
    refine ⟨_, rfl, ?_⟩
    have B_w17 := Lib.hid (below_step (B_w16.out) hb_)
    have K_ma_w17 := Lib.hid (blk_below (K_ma_w16.out) hb_)
    have K_mb_w17 := Lib.hid (blk_below (K_mb_w16.out) hb_)
    have K_mc_w17 := Lib.hid (blk_below (K_mc_w16.out) hb_)
    clear hb_
    clear B_w16 K_ma_w16 K_mb_w16 K_mc_w16
    refine hK.out _ _ ⟨load27 K_ma_w17.out, load27 K_mb_w17.out, load27 K_mc_w17.out⟩ (fun hHeld => ?_)
    clear hK K
    refine norm_ (a' := ?_) ?_ ?_
    rotate_left
    · show Act.put _ (some 56) _ = _
      simp only [Act.put, List.setIfInBounds_toArray, List.set_cons_zero, List.set_cons_succ, i64_w, i32_w]
      rfl
    refine one_ (i := 26) (N := some 58) #[true, true, true, true, true, true, true, true, true, true, true, true, true, true, true, true, true, true, true, true, true, true, true, true, true, true, true, false, false, false, false, false, false, false, false, false, false, false, false, false, false, false, false] rfl rfl (by kernel_rfl) (by decide) (fun K hK => ?_)
    refine goes_ Tryd.func24 (by kernel_rfl) rfl #[.agg (cells (orF ma mb)), .agg (cells mc)] (by rfl) rfl rfl (by simp only [List.map_toArray, List.map_cons, List.map_nil]; rfl) ?_
    with_reducible refine (or_any (orF ma mb) mc _).mono ?_
    rintro e_ w18 ⟨rfl, hb_⟩
    refine ⟨_, rfl, ?_⟩
    have B_w18 := Lib.hid (below_step (B_w17.out) hb_)
    have K_ma_w18 := Lib.hid (blk_below (K_ma_w17.out) hb_)
    have K_mb_w18 := Lib.hid (blk_below (K_mb_w17.out) hb_)
    have K_mc_w18 := Lib.hid (blk_below (K_mc_w17.out) hb_)
    clear hb_
    clear B_w17 K_ma_w17 K_mb_w17 K_mc_w17
    refine hK.out _ _ ⟨load27 K_ma_w18.out, load27 K_mb_w18.out, load27 K_mc_w18.out⟩ (fun hHeld => ?_)
    clear hK K
    refine norm_ (a' := ?_) ?_ ?_
    rotate_left
    · show Act.put _ (some 58) _ = _
      simp only [Act.put, List.setIfInBounds_toArray, List.set_cons_zero, List.set_cons_succ, i64_w, i32_w]
      rfl
    refine one_ (i := 27) (N := some 59) #[true, true, true, true, true, true, true, true, true, true, true, true, true, true, true, true, true, true, true, true, true, true, true, true, true, true, true, true, false, false, false, false, false, false, false, false, false, false, false, false, false, false, false] rfl rfl (by kernel_rfl) (by decide) (fun K hK => ?_)
    refine goes_ Tryd.func28 (by kernel_rfl) rfl #[.agg (cells (orF ma (orF mb mc))), .agg (cells (orF (orF ma mb) mc))] (by rfl) rfl rfl (by simp only [List.map_toArray, List.map_cons, List.map_nil]; rfl) ?_
    with_reducible refine (same_is (orF ma (orF mb mc)) (orF (orF ma mb) mc) true (l6_8_27 ma mb mc) _).mono ?_
    rintro e_ w19 ⟨rfl, hb_⟩
    refine ⟨_, rfl, ?_⟩
    have B_w19 := Lib.hid (below_step (B_w18.out) hb_)
    have K_ma_w19 := Lib.hid (blk_below (K_ma_w18.out) hb_)
    have K_mb_w19 := Lib.hid (blk_below (K_mb_w18.out) hb_)
    have K_mc_w19 := Lib.hid (blk_below (K_mc_w18.out) hb_)
    clear hb_
    clear B_w18 K_ma_w18 K_mb_w18 K_mc_w18
    refine hK.out _ _ ⟨load27 K_ma_w19.out, load27 K_mb_w19.out, load27 K_mc_w19.out⟩ (fun hHeld => ?_)
    clear hK K
    refine norm_ (a' := ?_) ?_ ?_
    rotate_left
    · show Act.put _ (some 59) _ = _
      simp only [Act.put, List.setIfInBounds_toArray, List.set_cons_zero, List.set_cons_succ, i64_w, i32_w]
      rfl
    refine pure_ (i := 28) (N := some 60) (v := ?_) (a' := ?_) #[true, true, true, true, true, true, true, true, true, true, true, true, true, true, true, true, true, true, true, true, true, true, true, true, true, true, true, true, true, false, false, false, false, false, false, false, false, false, false, false, false, false, false] rfl rfl (by kernel_rfl) (fun _ _ _ h => h) (Or.inl ⟨by rfl, ?_⟩) ?_ ?_
    rotate_left
    · intro w'
      go_simp
      with_reducible rfl
    rotate_left
    · simp only [Act.put, List.setIfInBounds_toArray, List.set_cons_zero, List.set_cons_succ, i64_w, i32_w]
      rfl
    refine pure_ (i := 29) (N := some 61) (v := ?_) (a' := ?_) #[true, true, true, true, true, true, true, true, true, true, true, true, true, true, true, true, true, true, true, true, true, true, true, true, true, true, true, true, true, true, false, false, false, false, false, false, false, false, false, false, false, false, false] rfl rfl (by kernel_rfl) (fun _ _ _ h => h) (Or.inl ⟨by rfl, ?_⟩) ?_ ?_
    rotate_left
    · intro w'
      go_simp
      with_reducible rfl
    rotate_left
    · simp only [Act.put, List.setIfInBounds_toArray, List.set_cons_zero, List.set_cons_succ, i64_w, i32_w]
      rfl
    refine take_ (i := 30) (N := some 62) (v := ?_) (a' := ?_) #[true, true, true, true, true, true, true, true, true, true, true, true, true, true, true, true, true, true, true, true, true, true, true, true, true, true, true, true, true, true, true, false, false, false, false, false, false, false, false, false, false, false, false] rfl rfl (by kernel_rfl) (fun _ _ _ h => h) (Or.inl ⟨by rfl, ?_⟩) hHeld ?_ ?_
    rotate_left
    · rintro w' ⟨s0, s1, s2⟩
      refine (exec_load _ _ 27 (.tmp 9) _ _ _ (by rfl) (by rfl) s0).trans ?_
      with_reducible rfl
    rotate_left
    · simp only [Act.put, List.setIfInBounds_toArray, List.set_cons_zero, List.set_cons_succ, i64_w, i32_w]
      rfl
    refine take_ (i := 31) (N := some 63) (v := ?_) (a' := ?_) #[true, true, true, true, true, true, true, true, true, true, true, true, true, true, true, true, true, true, true, true, true, true, true, true, true, true, true, true, true, true, true, true, false, false, false, false, false, false, false, false, false, false, false] rfl rfl (by kernel_rfl) (fun _ _ _ h => h) (Or.inl ⟨by rfl, ?_⟩) hHeld ?_ ?_
    rotate_left
    · rintro w' ⟨s0, s1, s2⟩
      refine (exec_load _ _ 27 (.tmp 10) _ _ _ (by rfl) (by rfl) s1).trans ?_
      with_reducible rfl
    rotate_left
    · simp only [Act.put, List.setIfInBounds_toArray, List.set_cons_zero, List.set_cons_succ, i64_w, i32_w]
      rfl
    refine take_ (i := 32) (N := some 64) (v := ?_) (a' := ?_) #[true, true, true, true, true, true, true, true, true, true, true, true, true, true, true, true, true, true, true, true, true, true, true, true, true, true, true, true, true, true, true, true, true, false, false, false, false, false, false, false, false, false, false] rfl rfl (by kernel_rfl) (fun _ _ _ h => h) (Or.inl ⟨by rfl, ?_⟩) hHeld ?_ ?_
    rotate_left
    · rintro w' ⟨s0, s1, s2⟩
      refine (exec_load _ _ 27 (.tmp 11) _ _ _ (by rfl) (by rfl) s2).trans ?_
      with_reducible rfl
    rotate_left
    · simp only [Act.put, List.setIfInBounds_toArray, List.set_cons_zero, List.set_cons_succ, i64_w, i32_w]
      rfl
    refine take_ (i := 35) (N := some 67) (v := ?_) (a' := ?_) #[true, true, true, true, true, true, true, true, true, true, true, true, true, true, true, true, true, true, true, true, true, true, true, true, true, true, true, true, true, true, true, true, true, false, false, true, false, false, false, false, false, false, false] rfl rfl (by kernel_rfl) (fun _ _ _ h => h) (Or.inl ⟨by rfl, ?_⟩) hHeld ?_ ?_
    rotate_left
    · rintro w' ⟨s0, s1, s2⟩
      refine (exec_load _ _ 27 (.tmp 9) _ _ _ (by rfl) (by rfl) s0).trans ?_
      with_reducible rfl
    rotate_left
    · simp only [Act.put, List.setIfInBounds_toArray, List.set_cons_zero, List.set_cons_succ, i64_w, i32_w]
      rfl
    refine take_ (i := 36) (N := some 68) (v := ?_) (a' := ?_) #[true, true, true, true, true, true, true, true, true, true, true, true, true, true, true, true, true, true, true, true, true, true, true, true, true, true, true, true, true, true, true, true, true, false, false, true, true, false, false, false, false, false, false] rfl rfl (by kernel_rfl) (fun _ _ _ h => h) (Or.inl ⟨by rfl, ?_⟩) hHeld ?_ ?_
    rotate_left
    · rintro w' ⟨s0, s1, s2⟩
      refine (exec_load _ _ 27 (.tmp 10) _ _ _ (by rfl) (by rfl) s1).trans ?_
      with_reducible rfl
    rotate_left
    · simp only [Act.put, List.setIfInBounds_toArray, List.set_cons_zero, List.set_cons_succ, i64_w, i32_w]
      rfl
    refine take_ (i := 38) (N := some 70) (v := ?_) (a' := ?_) #[true, true, true, true, true, true, true, true, true, true, true, true, true, true, true, true, true, true, true, true, true, true, true, true, true, true, true, true, true, true, true, true, true, false, false, true, true, false, true, false, false, false, false] rfl rfl (by kernel_rfl) (fun _ _ _ h => h) (Or.inl ⟨by rfl, ?_⟩) hHeld ?_ ?_
    rotate_left
    · rintro w' ⟨s0, s1, s2⟩
      refine (exec_load _ _ 27 (.tmp 11) _ _ _ (by rfl) (by rfl) s2).trans ?_
      with_reducible rfl
    rotate_left
    · simp only [Act.put, List.setIfInBounds_toArray, List.set_cons_zero, List.set_cons_succ, i64_w, i32_w]
      rfl
    refine one_ (i := 33) (N := some 65) #[true, true, true, true, true, true, true, true, true, true, true, true, true, true, true, true, true, true, true, true, true, true, true, true, true, true, true, true, true, true, true, true, true, true, false, true, true, false, true, false, false, false, false] rfl rfl (by kernel_rfl) (by decide) (fun K hK => ?_)
    refine goes_ Tryd.func26 (by kernel_rfl) rfl #[.agg (cells mb), .agg (cells mc)] (by rfl) rfl rfl (by simp only [List.map_toArray, List.map_cons, List.map_nil]; rfl) ?_
    with_reducible refine (and_any mb mc _).mono ?_
    rintro e_ w20 ⟨rfl, hb_⟩
    refine ⟨_, rfl, ?_⟩
    have B_w20 := Lib.hid (below_step (B_w19.out) hb_)
    have K_ma_w20 := Lib.hid (blk_below (K_ma_w19.out) hb_)
    have K_mb_w20 := Lib.hid (blk_below (K_mb_w19.out) hb_)
    have K_mc_w20 := Lib.hid (blk_below (K_mc_w19.out) hb_)
    clear hb_
    clear B_w19 K_ma_w19 K_mb_w19 K_mc_w19
    refine hK.out _ _ ⟨load27 K_ma_w20.out, load27 K_mb_w20.out, load27 K_mc_w20.out⟩ (fun hHeld => ?_)
    clear hK K
    refine norm_ (a' := ?_) ?_ ?_
    rotate_left
    · show Act.put _ (some 65) _ = _
      simp only [Act.put, List.setIfInBounds_toArray, List.set_cons_zero, List.set_cons_succ, i64_w, i32_w]
      rfl
    refine one_ (i := 34) (N := some 66) #[true, true, true, true, true, true, true, true, true, true, true, true, true, true, true, true, true, true, true, true, true, true, true, true, true, true, true, true, true, true, true, true, true, true, true, true, true, false, true, false, false, false, false] rfl rfl (by kernel_rfl) (by decide) (fun K hK => ?_)
    refine goes_ Tryd.func26 (by kernel_rfl) rfl #[.agg (cells ma), .agg (cells (andF mb mc))] (by rfl) rfl rfl (by simp only [List.map_toArray, List.map_cons, List.map_nil]; rfl) ?_
    with_reducible refine (and_any ma (andF mb mc) _).mono ?_
    rintro e_ w21 ⟨rfl, hb_⟩
    refine ⟨_, rfl, ?_⟩
    have B_w21 := Lib.hid (below_step (B_w20.out) hb_)
    have K_ma_w21 := Lib.hid (blk_below (K_ma_w20.out) hb_)
    have K_mb_w21 := Lib.hid (blk_below (K_mb_w20.out) hb_)
    have K_mc_w21 := Lib.hid (blk_below (K_mc_w20.out) hb_)
    clear hb_
    clear B_w20 K_ma_w20 K_mb_w20 K_mc_w20
    refine hK.out _ _ ⟨load27 K_ma_w21.out, load27 K_mb_w21.out, load27 K_mc_w21.out⟩ (fun hHeld => ?_)
    clear hK K
    refine norm_ (a' := ?_) ?_ ?_
    rotate_left
    · show Act.put _ (some 66) _ = _
      simp only [Act.put, List.setIfInBounds_toArray, List.set_cons_zero, List.set_cons_succ, i64_w, i32_w]
      rfl
    refine one_ (i := 37) (N := some 69) #[true, true, true, true, true, true, true, true, true, true, true, true, true, true, true, true, true, true, true, true, true, true, true, true, true, true, true, true, true, true, true, true, true, true, true, true, true, true, true, false, false, false, false] rfl rfl (by kernel_rfl) (by decide) (fun K hK => ?_)
    refine goes_ Tryd.func26 (by kernel_rfl) rfl #[.agg (cells ma), .agg (cells mb)] (by rfl) rfl rfl (by simp only [List.map_toArray, List.map_cons, List.map_nil]; rfl) ?_
    with_reducible refine (and_any ma mb _).mono ?_
    rintro e_ w22 ⟨rfl, hb_⟩
    refine ⟨_, rfl, ?_⟩
    have B_w22 := Lib.hid (below_step (B_w21.out) hb_)
    have K_ma_w22 := Lib.hid (blk_below (K_ma_w21.out) hb_)
    have K_mb_w22 := Lib.hid (blk_below (K_mb_w21.out) hb_)
    have K_mc_w22 := Lib.hid (blk_below (K_mc_w21.out) hb_)
    clear hb_
    clear B_w21 K_ma_w21 K_mb_w21 K_mc_w21
    refine hK.out _ _ ⟨load27 K_ma_w22.out, load27 K_mb_w22.out, load27 K_mc_w22.out⟩ (fun hHeld => ?_)
    clear hK K
    refine norm_ (a' := ?_) ?_ ?_
    rotate_left
    · show Act.put _ (some 69) _ = _
      simp only [Act.put, List.setIfInBounds_toArray, List.set_cons_zero, List.set_cons_succ, i64_w, i32_w]
      rfl
    refine one_ (i := 39) (N := some 71) #[true, true, true, true, true, true, true, true, true, true, true, true, true, true, true, true, true, true, true, true, true, true, true, true, true, true, true, true, true, true, true, true, true, true, true, true, true, true, true, true, false, false, false] rfl rfl (by kernel_rfl) (by decide) (fun K hK => ?_)
    refine goes_ Tryd.func26 (by kernel_rfl) rfl #[.agg (cells (andF ma mb)), .agg (cells mc)] (by rfl) rfl rfl (by simp only [List.map_toArray, List.map_cons, List.map_nil]; rfl) ?_
    with_reducible refine (and_any (andF ma mb) mc _).mono ?_
    rintro e_ w23 ⟨rfl, hb_⟩
    refine ⟨_, rfl, ?_⟩
    have B_w23 := Lib.hid (below_step (B_w22.out) hb_)
    have K_ma_w23 := Lib.hid (blk_below (K_ma_w22.out) hb_)
    have K_mb_w23 := Lib.hid (blk_below (K_mb_w22.out) hb_)
    have K_mc_w23 := Lib.hid (blk_below (K_mc_w22.out) hb_)
    clear hb_
    clear B_w22 K_ma_w22 K_mb_w22 K_mc_w22
    refine hK.out _ _ ⟨load27 K_ma_w23.out, load27 K_mb_w23.out, load27 K_mc_w23.out⟩ (fun hHeld => ?_)
    clear hK K
    refine norm_ (a' := ?_) ?_ ?_
    rotate_left
    · show Act.put _ (some 71) _ = _
      simp only [Act.put, List.setIfInBounds_toArray, List.set_cons_zero, List.set_cons_succ, i64_w, i32_w]
      rfl
    refine one_ (i := 40) (N := some 72) #[true, true, true, true, true, true, true, true, true, true, true, true, true, true, true, true, true, true, true, true, true, true, true, true, true, true, true, true, true, true, true, true, true, true, true, true, true, true, true, true, true, false, false] rfl rfl (by kernel_rfl) (by decide) (fun K hK => ?_)
    refine goes_ Tryd.func28 (by kernel_rfl) rfl #[.agg (cells (andF ma (andF mb mc))), .agg (cells (andF (andF ma mb) mc))] (by rfl) rfl rfl (by simp only [List.map_toArray, List.map_cons, List.map_nil]; rfl) ?_
    with_reducible refine (same_is (andF ma (andF mb mc)) (andF (andF ma mb) mc) true (l6_8_40 ma mb mc) _).mono ?_
    rintro e_ w24 ⟨rfl, hb_⟩
    refine ⟨_, rfl, ?_⟩
    have B_w24 := Lib.hid (below_step (B_w23.out) hb_)
    have K_ma_w24 := Lib.hid (blk_below (K_ma_w23.out) hb_)
    have K_mb_w24 := Lib.hid (blk_below (K_mb_w23.out) hb_)
    have K_mc_w24 := Lib.hid (blk_below (K_mc_w23.out) hb_)
    clear hb_
    clear B_w23 K_ma_w23 K_mb_w23 K_mc_w23
    refine hK.out _ _ ⟨load27 K_ma_w24.out, load27 K_mb_w24.out, load27 K_mc_w24.out⟩ (fun hHeld => ?_)
    clear hK K
    refine norm_ (a' := ?_) ?_ ?_
    rotate_left
    · show Act.put _ (some 72) _ = _
      simp only [Act.put, List.setIfInBounds_toArray, List.set_cons_zero, List.set_cons_succ, i64_w, i32_w]
      rfl
    refine pure_ (i := 41) (N := some 73) (v := ?_) (a' := ?_) #[true, true, true, true, true, true, true, true, true, true, true, true, true, true, true, true, true, true, true, true, true, true, true, true, true, true, true, true, true, true, true, true, true, true, true, true, true, true, true, true, true, true, false] rfl rfl (by kernel_rfl) (fun _ _ _ h => h) (Or.inl ⟨by rfl, ?_⟩) ?_ ?_
    rotate_left
    · intro w'
      go_simp
      with_reducible rfl
    rotate_left
    · simp only [Act.put, List.setIfInBounds_toArray, List.set_cons_zero, List.set_cons_succ, i64_w, i32_w]
      rfl
    refine pure_ (i := 42) (N := some 12) (v := ?_) (a' := ?_) #[true, true, true, true, true, true, true, true, true, true, true, true, true, true, true, true, true, true, true, true, true, true, true, true, true, true, true, true, true, true, true, true, true, true, true, true, true, true, true, true, true, true, true] rfl rfl (by kernel_rfl) (fun _ _ _ h => h) (Or.inl ⟨by rfl, ?_⟩) ?_ ?_
    rotate_left
    · intro w'
      go_simp
      with_reducible rfl
    rotate_left
    · simp only [Act.put, List.setIfInBounds_toArray, List.set_cons_zero, List.set_cons_succ, i64_w, i32_w]
      rfl
    refine done_ (by kernel_rfl) ?_
    have nB := Lib.hid (B_w24.out)
    clear HB
    have HB := nB
    clear nB
    have n_ := Lib.hid (K_ma_w24.out)
    clear K_ma
    have K_ma := n_
    clear n_
    have n_ := Lib.hid (K_mb_w24.out)
    clear K_mb
    have K_mb := n_
    clear n_
    have n_ := Lib.hid (K_mc_w24.out)
    clear K_mc
    have K_mc := n_
    clear n_
    go_wp2_with fail
    refine start_ (n := 29) (S := fun w' => (loadVar 27 ⟨w3.heap.size, 0, none⟩).run Tryd.prog w' = .ok (.agg (cells ma)) w' ∧ (loadVar 27 ⟨w5.heap.size, 0, none⟩).run Tryd.prog w' = .ok (.agg (cells mb)) w' ∧ (loadVar 27 ⟨w7.heap.size, 0, none⟩).run Tryd.prog w' = .ok (.agg (cells mc)) w') (ds := []) #[false, false, false, false, false, false, false, false, false, false, false, false, false, false, false, false, false, false, false, false, false, false, false, false, false, false, false, false, false] (by kernel_rfl) rfl rfl ⟨load27 (blk_drew K_ma.out), load27 (blk_drew K_mb.out), load27 (blk_drew K_mc.out)⟩ (fun hHeld => ?_)
    refine take_ (i := 0) (N := some 74) (v := ?_) (a' := ?_) #[true, false, false, false, false, false, false, false, false, false, false, false, false, false, false, false, false, false, false, false, false, false, false, false, false, false, false, false, false] rfl rfl (by kernel_rfl) (fun _ _ _ h => h) (Or.inl ⟨by rfl, ?_⟩) hHeld ?_ ?_
    rotate_left
    · rintro w' ⟨s0, s1, s2⟩
      refine (exec_load _ _ 27 (.tmp 9) _ _ _ (by rfl) (by rfl) s0).trans ?_
      with_reducible rfl
    rotate_left
    · simp only [Act.put, List.setIfInBounds_toArray, List.set_cons_zero, List.set_cons_succ, i64_w, i32_w]
      rfl
    refine take_ (i := 1) (N := some 75) (v := ?_) (a' := ?_) #[true, true, false, false, false, false, false, false, false, false, false, false, false, false, false, false, false, false, false, false, false, false, false, false, false, false, false, false, false] rfl rfl (by kernel_rfl) (fun _ _ _ h => h) (Or.inl ⟨by rfl, ?_⟩) hHeld ?_ ?_
    rotate_left
    · rintro w' ⟨s0, s1, s2⟩
      refine (exec_load _ _ 27 (.tmp 10) _ _ _ (by rfl) (by rfl) s1).trans ?_
      with_reducible rfl
    rotate_left
    · simp only [Act.put, List.setIfInBounds_toArray, List.set_cons_zero, List.set_cons_succ, i64_w, i32_w]
      rfl
    refine take_ (i := 3) (N := some 77) (v := ?_) (a' := ?_) #[true, true, false, true, false, false, false, false, false, false, false, false, false, false, false, false, false, false, false, false, false, false, false, false, false, false, false, false, false] rfl rfl (by kernel_rfl) (fun _ _ _ h => h) (Or.inl ⟨by rfl, ?_⟩) hHeld ?_ ?_
    rotate_left
    · rintro w' ⟨s0, s1, s2⟩
      refine (exec_load _ _ 27 (.tmp 11) _ _ _ (by rfl) (by rfl) s2).trans ?_
      with_reducible rfl
    rotate_left
    · simp only [Act.put, List.setIfInBounds_toArray, List.set_cons_zero, List.set_cons_succ, i64_w, i32_w]
      rfl
    refine take_ (i := 5) (N := some 79) (v := ?_) (a' := ?_) #[true, true, false, true, false, true, false, false, false, false, false, false, false, false, false, false, false, false, false, false, false, false, false, false, false, false, false, false, false] rfl rfl (by kernel_rfl) (fun _ _ _ h => h) (Or.inl ⟨by rfl, ?_⟩) hHeld ?_ ?_
    rotate_left
    · rintro w' ⟨s0, s1, s2⟩
      refine (exec_load _ _ 27 (.tmp 9) _ _ _ (by rfl) (by rfl) s0).trans ?_
      with_reducible rfl
    rotate_left
    · simp only [Act.put, List.setIfInBounds_toArray, List.set_cons_zero, List.set_cons_succ, i64_w, i32_w]
      rfl
    refine take_ (i := 6) (N := some 80) (v := ?_) (a' := ?_) #[true, true, false, true, false, true, true, false, false, false, false, false, false, false, false, false, false, false, false, false, false, false, false, false, false, false, false, false, false] rfl rfl (by kernel_rfl) (fun _ _ _ h => h) (Or.inl ⟨by rfl, ?_⟩) hHeld ?_ ?_
    rotate_left
    · rintro w' ⟨s0, s1, s2⟩
      refine (exec_load _ _ 27 (.tmp 11) _ _ _ (by rfl) (by rfl) s2).trans ?_
      with_reducible rfl
    rotate_left
    · simp only [Act.put, List.setIfInBounds_toArray, List.set_cons_zero, List.set_cons_succ, i64_w, i32_w]
      rfl
    refine take_ (i := 8) (N := some 82) (v := ?_) (a' := ?_) #[true, true, false, true, false, true, true, false, true, false, false, false, false, false, false, false, false, false, false, false, false, false, false, false, false, false, false, false, false] rfl rfl (by kernel_rfl) (fun _ _ _ h => h) (Or.inl ⟨by rfl, ?_⟩) hHeld ?_ ?_
    rotate_left
    · rintro w' ⟨s0, s1, s2⟩
      refine (exec_load _ _ 27 (.tmp 10) _ _ _ (by rfl) (by rfl) s1).trans ?_
      with_reducible rfl
    rotate_left
    · simp only [Act.put, List.setIfInBounds_toArray, List.set_cons_zero, List.set_cons_succ, i64_w, i32_w]
      rfl
    refine take_ (i := 9) (N := some 83) (v := ?_) (a' := ?_) #[true, true, false, true, false, true, true, false, true, true, false, false, false, false, false, false, false, false, false, false, false, false, false, false, false, false, false, false, false] rfl rfl (by kernel_rfl) (fun _ _ _ h => h) (Or.inl ⟨by rfl, ?_⟩) hHeld ?_ ?_
    rotate_left
    · rintro w' ⟨s0, s1, s2⟩
      refine (exec_load _ _ 27 (.tmp 11) _ _ _ (by rfl) (by rfl) s2).trans ?_
      with_reducible rfl
    rotate_left
    · simp only [Act.put, List.setIfInBounds_toArray, List.set_cons_zero, List.set_cons_succ, i64_w, i32_w]
      rfl
    refine one_ (i := 2) (N := some 76) #[true, true, true, true, false, true, true, false, true, true, false, false, false, false, false, false, false, false, false, false, false, false, false, false, false, false, false, false, false] rfl rfl (by kernel_rfl) (by decide) (fun K hK => ?_)
    refine goes_ Tryd.func24 (by kernel_rfl) rfl #[.agg (cells ma), .agg (cells mb)] (by rfl) rfl rfl (by simp only [List.map_toArray, List.map_cons, List.map_nil]; rfl) ?_
    with_reducible refine (or_any ma mb _).mono ?_
    rintro e_ w25 ⟨rfl, hb_⟩
    refine ⟨_, rfl, ?_⟩
    have B_w25 := Lib.hid (below_step ((below_drew HB.out)) hb_)
    have K_ma_w25 := Lib.hid (blk_below (blk_drew K_ma.out) hb_)
    have K_mb_w25 := Lib.hid (blk_below (blk_drew K_mb.out) hb_)
    have K_mc_w25 := Lib.hid (blk_below (blk_drew K_mc.out) hb_)
    clear hb_
    refine hK.out _ _ ⟨load27 K_ma_w25.out, load27 K_mb_w25.out, load27 K_mc_w25.out⟩ (fun hHeld => ?_)
    clear hK K
    refine norm_ (a' := ?_) ?_ ?_
    rotate_left
    · show Act.put _ (some 76) _ = _
      simp only [Act.put, List.setIfInBounds_toArray, List.set_cons_zero, List.set_cons_succ, i64_w, i32_w]
      rfl
    refine one_ (i := 4) (N := some 78) #[true, true, true, true, true, true, true, false, true, true, false, false, false, false, false, false, false, false, false, false, false, false, false, false, false, false, false, false, false] rfl rfl (by kernel_rfl) (by decide) (fun K hK => ?_)
    refine goes_ Tryd.func27 (by kernel_rfl) rfl #[.agg (cells (orF ma mb)), .agg (cells mc)] (by rfl) rfl rfl (by simp only [List.map_toArray, List.map_cons, List.map_nil]; rfl) ?_
    with_reducible refine (minus_any (orF ma mb) mc _).mono ?_
    rintro e_ w26 ⟨rfl, hb_⟩
    refine ⟨_, rfl, ?_⟩
    have B_w26 := Lib.hid (below_step (B_w25.out) hb_)
    have K_ma_w26 := Lib.hid (blk_below (K_ma_w25.out) hb_)
    have K_mb_w26 := Lib.hid (blk_below (K_mb_w25.out) hb_)
    have K_mc_w26 := Lib.hid (blk_below (K_mc_w25.out) hb_)
    clear hb_
    clear B_w25 K_ma_w25 K_mb_w25 K_mc_w25
    refine hK.out _ _ ⟨load27 K_ma_w26.out, load27 K_mb_w26.out, load27 K_mc_w26.out⟩ (fun hHeld => ?_)
    clear hK K
    refine norm_ (a' := ?_) ?_ ?_
    rotate_left
    · show Act.put _ (some 78) _ = _
      simp only [Act.put, List.setIfInBounds_toArray, List.set_cons_zero, List.set_cons_succ, i64_w, i32_w]
      rfl
    refine one_ (i := 7) (N := some 81) #[true, true, true, true, true, true, true, true, true, true, false, false, false, false, false, false, false, false, false, false, false, false, false, false, false, false, false, false, false] rfl rfl (by kernel_rfl) (by decide) (fun K hK => ?_)
    refine goes_ Tryd.func27 (by kernel_rfl) rfl #[.agg (cells ma), .agg (cells mc)] (by rfl) rfl rfl (by simp only [List.map_toArray, List.map_cons, List.map_nil]; rfl) ?_
    with_reducible refine (minus_any ma mc _).mono ?_
    rintro e_ w27 ⟨rfl, hb_⟩
    refine ⟨_, rfl, ?_⟩
    have B_w27 := Lib.hid (below_step (B_w26.out) hb_)
    have K_ma_w27 := Lib.hid (blk_below (K_ma_w26.out) hb_)
    have K_mb_w27 := Lib.hid (blk_below (K_mb_w26.out) hb_)
    have K_mc_w27 := Lib.hid (blk_below (K_mc_w26.out) hb_)
    clear hb_
    clear B_w26 K_ma_w26 K_mb_w26 K_mc_w26
    refine hK.out _ _ ⟨load27 K_ma_w27.out, load27 K_mb_w27.out, load27 K_mc_w27.out⟩ (fun hHeld => ?_)
    clear hK K
    refine norm_ (a' := ?_) ?_ ?_
    rotate_left
    · show Act.put _ (some 81) _ = _
      simp only [Act.put, List.setIfInBounds_toArray, List.set_cons_zero, List.set_cons_succ, i64_w, i32_w]
      rfl
    refine one_ (i := 10) (N := some 84) #[true, true, true, true, true, true, true, true, true, true, true, false, false, false, false, false, false, false, false, false, false, false, false, false, false, false, false, false, false] rfl rfl (by kernel_rfl) (by decide) (fun K hK => ?_)
    refine goes_ Tryd.func27 (by kernel_rfl) rfl #[.agg (cells mb), .agg (cells mc)] (by rfl) rfl rfl (by simp only [List.map_toArray, List.map_cons, List.map_nil]; rfl) ?_
    with_reducible refine (minus_any mb mc _).mono ?_
    rintro e_ w28 ⟨rfl, hb_⟩
    refine ⟨_, rfl, ?_⟩
    have B_w28 := Lib.hid (below_step (B_w27.out) hb_)
    have K_ma_w28 := Lib.hid (blk_below (K_ma_w27.out) hb_)
    have K_mb_w28 := Lib.hid (blk_below (K_mb_w27.out) hb_)
    have K_mc_w28 := Lib.hid (blk_below (K_mc_w27.out) hb_)
    clear hb_
    clear B_w27 K_ma_w27 K_mb_w27 K_mc_w27
    refine hK.out _ _ ⟨load27 K_ma_w28.out, load27 K_mb_w28.out, load27 K_mc_w28.out⟩ (fun hHeld => ?_)
    clear hK K
    refine norm_ (a' := ?_) ?_ ?_
    rotate_left
    · show Act.put _ (some 84) _ = _
      simp only [Act.put, List.setIfInBounds_toArray, List.set_cons_zero, List.set_cons_succ, i64_w, i32_w]
      rfl
    refine one_ (i := 11) (N := some 85) #[true, true, true, true, true, true, true, true, true, true, true, true, false, false, false, false, false, false, false, false, false, false, false, false, false, false, false, false, false] rfl rfl (by kernel_rfl) (by decide) (fun K hK => ?_)
    refine goes_ Tryd.func24 (by kernel_rfl) rfl #[.agg (cells (minF ma mc)), .agg (cells (minF mb mc))] (by rfl) rfl rfl (by simp only [List.map_toArray, List.map_cons, List.map_nil]; rfl) ?_
    with_reducible refine (or_any (minF ma mc) (minF mb mc) _).mono ?_
    rintro e_ w29 ⟨rfl, hb_⟩
    refine ⟨_, rfl, ?_⟩
    have B_w29 := Lib.hid (below_step (B_w28.out) hb_)
    have K_ma_w29 := Lib.hid (blk_below (K_ma_w28.out) hb_)
    have K_mb_w29 := Lib.hid (blk_below (K_mb_w28.out) hb_)
    have K_mc_w29 := Lib.hid (blk_below (K_mc_w28.out) hb_)
    clear hb_
    clear B_w28 K_ma_w28 K_mb_w28 K_mc_w28
    refine hK.out _ _ ⟨load27 K_ma_w29.out, load27 K_mb_w29.out, load27 K_mc_w29.out⟩ (fun hHeld => ?_)
    clear hK K
    refine norm_ (a' := ?_) ?_ ?_
    rotate_left
    · show Act.put _ (some 85) _ = _
      simp only [Act.put, List.setIfInBounds_toArray, List.set_cons_zero, List.set_cons_succ, i64_w, i32_w]
      rfl
    refine one_ (i := 12) (N := some 86) #[true, true, true, true, true, true, true, true, true, true, true, true, true, false, false, false, false, false, false, false, false, false, false, false, false, false, false, false, false] rfl rfl (by kernel_rfl) (by decide) (fun K hK => ?_)
    refine goes_ Tryd.func28 (by kernel_rfl) rfl #[.agg (cells (minF (orF ma mb) mc)), .agg (cells (orF (minF ma mc) (minF mb mc)))] (by rfl) rfl rfl (by simp only [List.map_toArray, List.map_cons, List.map_nil]; rfl) ?_
    with_reducible refine (same_is (minF (orF ma mb) mc) (orF (minF ma mc) (minF mb mc)) true (l6_9_12 ma mb mc) _).mono ?_
    rintro e_ w30 ⟨rfl, hb_⟩
    refine ⟨_, rfl, ?_⟩
    have B_w30 := Lib.hid (below_step (B_w29.out) hb_)
    have K_ma_w30 := Lib.hid (blk_below (K_ma_w29.out) hb_)
    have K_mb_w30 := Lib.hid (blk_below (K_mb_w29.out) hb_)
    have K_mc_w30 := Lib.hid (blk_below (K_mc_w29.out) hb_)
    clear hb_
    clear B_w29 K_ma_w29 K_mb_w29 K_mc_w29
    refine hK.out _ _ ⟨load27 K_ma_w30.out, load27 K_mb_w30.out, load27 K_mc_w30.out⟩ (fun hHeld => ?_)
    clear hK K
    refine norm_ (a' := ?_) ?_ ?_
    rotate_left
    · show Act.put _ (some 86) _ = _
      simp only [Act.put, List.setIfInBounds_toArray, List.set_cons_zero, List.set_cons_succ, i64_w, i32_w]
      rfl
    refine pure_ (i := 13) (N := some 87) (v := ?_) (a' := ?_) #[true, true, true, true, true, true, true, true, true, true, true, true, true, true, false, false, false, false, false, false, false, false, false, false, false, false, false, false, false] rfl rfl (by kernel_rfl) (fun _ _ _ h => h) (Or.inl ⟨by rfl, ?_⟩) ?_ ?_
    rotate_left
    · intro w'
      go_simp
      with_reducible rfl
    rotate_left
    · simp only [Act.put, List.setIfInBounds_toArray, List.set_cons_zero, List.set_cons_succ, i64_w, i32_w]
      rfl
    refine take_ (i := 14) (N := some 88) (v := ?_) (a' := ?_) #[true, true, true, true, true, true, true, true, true, true, true, true, true, true, true, false, false, false, false, false, false, false, false, false, false, false, false, false, false] rfl rfl (by kernel_rfl) (fun _ _ _ h => h) (Or.inl ⟨by rfl, ?_⟩) hHeld ?_ ?_
    rotate_left
    · rintro w' ⟨s0, s1, s2⟩
      refine (exec_load _ _ 27 (.tmp 9) _ _ _ (by rfl) (by rfl) s0).trans ?_
      with_reducible rfl
    rotate_left
    · simp only [Act.put, List.setIfInBounds_toArray, List.set_cons_zero, List.set_cons_succ, i64_w, i32_w]
      rfl
    refine take_ (i := 15) (N := some 89) (v := ?_) (a' := ?_) #[true, true, true, true, true, true, true, true, true, true, true, true, true, true, true, true, false, false, false, false, false, false, false, false, false, false, false, false, false] rfl rfl (by kernel_rfl) (fun _ _ _ h => h) (Or.inl ⟨by rfl, ?_⟩) hHeld ?_ ?_
    rotate_left
    · rintro w' ⟨s0, s1, s2⟩
      refine (exec_load _ _ 27 (.tmp 10) _ _ _ (by rfl) (by rfl) s1).trans ?_
      with_reducible rfl
    rotate_left
    · simp only [Act.put, List.setIfInBounds_toArray, List.set_cons_zero, List.set_cons_succ, i64_w, i32_w]
      rfl
    refine take_ (i := 16) (N := some 90) (v := ?_) (a' := ?_) #[true, true, true, true, true, true, true, true, true, true, true, true, true, true, true, true, true, false, false, false, false, false, false, false, false, false, false, false, false] rfl rfl (by kernel_rfl) (fun _ _ _ h => h) (Or.inl ⟨by rfl, ?_⟩) hHeld ?_ ?_
    rotate_left
    · rintro w' ⟨s0, s1, s2⟩
      refine (exec_load _ _ 27 (.tmp 11) _ _ _ (by rfl) (by rfl) s2).trans ?_
      with_reducible rfl
    rotate_left
    · simp only [Act.put, List.setIfInBounds_toArray, List.set_cons_zero, List.set_cons_succ, i64_w, i32_w]
      rfl
    refine take_ (i := 19) (N := some 93) (v := ?_) (a' := ?_) #[true, true, true, true, true, true, true, true, true, true, true, true, true, true, true, true, true, false, false, true, false, false, false, false, false, false, false, false, false] rfl rfl (by kernel_rfl) (fun _ _ _ h => h) (Or.inl ⟨by rfl, ?_⟩) hHeld ?_ ?_
    rotate_left
    · rintro w' ⟨s0, s1, s2⟩
      refine (exec_load _ _ 27 (.tmp 9) _ _ _ (by rfl) (by rfl) s0).trans ?_
      with_reducible rfl
    rotate_left
    · simp only [Act.put, List.setIfInBounds_toArray, List.set_cons_zero, List.set_cons_succ, i64_w, i32_w]
      rfl
    refine take_ (i := 20) (N := some 94) (v := ?_) (a' := ?_) #[true, true, true, true, true, true, true, true, true, true, true, true, true, true, true, true, true, false, false, true, true, false, false, false, false, false, false, false, false] rfl rfl (by kernel_rfl) (fun _ _ _ h => h) (Or.inl ⟨by rfl, ?_⟩) hHeld ?_ ?_
    rotate_left
    · rintro w' ⟨s0, s1, s2⟩
      refine (exec_load _ _ 27 (.tmp 10) _ _ _ (by rfl) (by rfl) s1).trans ?_
      with_reducible rfl
    rotate_left
    · simp only [Act.put, List.setIfInBounds_toArray, List.set_cons_zero, List.set_cons_succ, i64_w, i32_w]
      rfl
    refine take_ (i := 22) (N := some 96) (v := ?_) (a' := ?_) #[true, true, true, true, true, true, true, true, true, true, true, true, true, true, true, true, true, false, false, true, true, false, true, false, false, false, false, false, false] rfl rfl (by kernel_rfl) (fun _ _ _ h => h) (Or.inl ⟨by rfl, ?_⟩) hHeld ?_ ?_
    rotate_left
    · rintro w' ⟨s0, s1, s2⟩
      refine (exec_load _ _ 27 (.tmp 9) _ _ _ (by rfl) (by rfl) s0).trans ?_
      with_reducible rfl
    rotate_left
    · simp only [Act.put, List.setIfInBounds_toArray, List.set_cons_zero, List.set_cons_succ, i64_w, i32_w]
      rfl
    refine take_ (i := 23) (N := some 97) (v := ?_) (a' := ?_) #[true, true, true, true, true, true, true, true, true, true, true, true, true, true, true, true, true, false, false, true, true, false, true, true, false, false, false, false, false] rfl rfl (by kernel_rfl) (fun _ _ _ h => h) (Or.inl ⟨by rfl, ?_⟩) hHeld ?_ ?_
    rotate_left
    · rintro w' ⟨s0, s1, s2⟩
      refine (exec_load _ _ 27 (.tmp 11) _ _ _ (by rfl) (by rfl) s2).trans ?_
      with_reducible rfl
    rotate_left
    · simp only [Act.put, List.setIfInBounds_toArray, List.set_cons_zero, List.set_cons_succ, i64_w, i32_w]
      rfl
    refine one_ (i := 17) (N := some 91) #[true, true, true, true, true, true, true, true, true, true, true, true, true, true, true, true, true, true, false, true, true, false, true, true, false, false, false, false, false] rfl rfl (by kernel_rfl) (by decide) (fun K hK => ?_)
    refine goes_ Tryd.func24 (by kernel_rfl) rfl #[.agg (cells mb), .agg (cells mc)] (by rfl) rfl rfl (by simp only [List.map_toArray, List.map_cons, List.map_nil]; rfl) ?_
    with_reducible refine (or_any mb mc _).mono ?_
    rintro e_ w31 ⟨rfl, hb_⟩
    refine ⟨_, rfl, ?_⟩
    have B_w31 := Lib.hid (below_step (B_w30.out) hb_)
    have K_ma_w31 := Lib.hid (blk_below (K_ma_w30.out) hb_)
    have K_mb_w31 := Lib.hid (blk_below (K_mb_w30.out) hb_)
    have K_mc_w31 := Lib.hid (blk_below (K_mc_w30.out) hb_)
    clear hb_
    clear B_w30 K_ma_w30 K_mb_w30 K_mc_w30
    refine hK.out _ _ ⟨load27 K_ma_w31.out, load27 K_mb_w31.out, load27 K_mc_w31.out⟩ (fun hHeld => ?_)
    clear hK K
    refine norm_ (a' := ?_) ?_ ?_
    rotate_left
    · show Act.put _ (some 91) _ = _
      simp only [Act.put, List.setIfInBounds_toArray, List.set_cons_zero, List.set_cons_succ, i64_w, i32_w]
      rfl
    refine one_ (i := 18) (N := some 92) #[true, true, true, true, true, true, true, true, true, true, true, true, true, true, true, true, true, true, true, true, true, false, true, true, false, false, false, false, false] rfl rfl (by kernel_rfl) (by decide) (fun K hK => ?_)
    refine goes_ Tryd.func26 (by kernel_rfl) rfl #[.agg (cells ma), .agg (cells (orF mb mc))] (by rfl) rfl rfl (by simp only [List.map_toArray, List.map_cons, List.map_nil]; rfl) ?_
    with_reducible refine (and_any ma (orF mb mc) _).mono ?_
    rintro e_ w32 ⟨rfl, hb_⟩
    refine ⟨_, rfl, ?_⟩
    have B_w32 := Lib.hid (below_step (B_w31.out) hb_)
    have K_ma_w32 := Lib.hid (blk_below (K_ma_w31.out) hb_)
    have K_mb_w32 := Lib.hid (blk_below (K_mb_w31.out) hb_)
    have K_mc_w32 := Lib.hid (blk_below (K_mc_w31.out) hb_)
    clear hb_
    clear B_w31 K_ma_w31 K_mb_w31 K_mc_w31
    refine hK.out _ _ ⟨load27 K_ma_w32.out, load27 K_mb_w32.out, load27 K_mc_w32.out⟩ (fun hHeld => ?_)
    clear hK K
    refine norm_ (a' := ?_) ?_ ?_
    rotate_left
    · show Act.put _ (some 92) _ = _
      simp only [Act.put, List.setIfInBounds_toArray, List.set_cons_zero, List.set_cons_succ, i64_w, i32_w]
      rfl
    refine one_ (i := 21) (N := some 95) #[true, true, true, true, true, true, true, true, true, true, true, true, true, true, true, true, true, true, true, true, true, true, true, true, false, false, false, false, false] rfl rfl (by kernel_rfl) (by decide) (fun K hK => ?_)
    refine goes_ Tryd.func26 (by kernel_rfl) rfl #[.agg (cells ma), .agg (cells mb)] (by rfl) rfl rfl (by simp only [List.map_toArray, List.map_cons, List.map_nil]; rfl) ?_
    with_reducible refine (and_any ma mb _).mono ?_
    rintro e_ w33 ⟨rfl, hb_⟩
    refine ⟨_, rfl, ?_⟩
    have B_w33 := Lib.hid (below_step (B_w32.out) hb_)
    have K_ma_w33 := Lib.hid (blk_below (K_ma_w32.out) hb_)
    have K_mb_w33 := Lib.hid (blk_below (K_mb_w32.out) hb_)
    have K_mc_w33 := Lib.hid (blk_below (K_mc_w32.out) hb_)
    clear hb_
    clear B_w32 K_ma_w32 K_mb_w32 K_mc_w32
    refine hK.out _ _ ⟨load27 K_ma_w33.out, load27 K_mb_w33.out, load27 K_mc_w33.out⟩ (fun hHeld => ?_)
    clear hK K
    refine norm_ (a' := ?_) ?_ ?_
    rotate_left
    · show Act.put _ (some 95) _ = _
      simp only [Act.put, List.setIfInBounds_toArray, List.set_cons_zero, List.set_cons_succ, i64_w, i32_w]
      rfl
    refine one_ (i := 24) (N := some 98) #[true, true, true, true, true, true, true, true, true, true, true, true, true, true, true, true, true, true, true, true, true, true, true, true, true, false, false, false, false] rfl rfl (by kernel_rfl) (by decide) (fun K hK => ?_)
    refine goes_ Tryd.func26 (by kernel_rfl) rfl #[.agg (cells ma), .agg (cells mc)] (by rfl) rfl rfl (by simp only [List.map_toArray, List.map_cons, List.map_nil]; rfl) ?_
    with_reducible refine (and_any ma mc _).mono ?_
    rintro e_ w34 ⟨rfl, hb_⟩
    refine ⟨_, rfl, ?_⟩
    have B_w34 := Lib.hid (below_step (B_w33.out) hb_)
    have K_ma_w34 := Lib.hid (blk_below (K_ma_w33.out) hb_)
    have K_mb_w34 := Lib.hid (blk_below (K_mb_w33.out) hb_)
    have K_mc_w34 := Lib.hid (blk_below (K_mc_w33.out) hb_)
    clear hb_
    clear B_w33 K_ma_w33 K_mb_w33 K_mc_w33
    refine hK.out _ _ ⟨load27 K_ma_w34.out, load27 K_mb_w34.out, load27 K_mc_w34.out⟩ (fun hHeld => ?_)
    clear hK K
    refine norm_ (a' := ?_) ?_ ?_
    rotate_left
    · show Act.put _ (some 98) _ = _
      simp only [Act.put, List.setIfInBounds_toArray, List.set_cons_zero, List.set_cons_succ, i64_w, i32_w]
      rfl
    refine one_ (i := 25) (N := some 99) #[true, true, true, true, true, true, true, true, true, true, true, true, true, true, true, true, true, true, true, true, true, true, true, true, true, true, false, false, false] rfl rfl (by kernel_rfl) (by decide) (fun K hK => ?_)
    refine goes_ Tryd.func24 (by kernel_rfl) rfl #[.agg (cells (andF ma mb)), .agg (cells (andF ma mc))] (by rfl) rfl rfl (by simp only [List.map_toArray, List.map_cons, List.map_nil]; rfl) ?_
    with_reducible refine (or_any (andF ma mb) (andF ma mc) _).mono ?_
    rintro e_ w35 ⟨rfl, hb_⟩
    refine ⟨_, rfl, ?_⟩
    have B_w35 := Lib.hid (below_step (B_w34.out) hb_)
    have K_ma_w35 := Lib.hid (blk_below (K_ma_w34.out) hb_)
    have K_mb_w35 := Lib.hid (blk_below (K_mb_w34.out) hb_)
    have K_mc_w35 := Lib.hid (blk_below (K_mc_w34.out) hb_)
    clear hb_
    clear B_w34 K_ma_w34 K_mb_w34 K_mc_w34
    refine hK.out _ _ ⟨load27 K_ma_w35.out, load27 K_mb_w35.out, load27 K_mc_w35.out⟩ (fun hHeld => ?_)
    clear hK K
    refine norm_ (a' := ?_) ?_ ?_
    rotate_left
    · show Act.put _ (some 99) _ = _
      simp only [Act.put, List.setIfInBounds_toArray, List.set_cons_zero, List.set_cons_succ, i64_w, i32_w]
      rfl
    refine one_ (i := 26) (N := some 100) #[true, true, true, true, true, true, true, true, true, true, true, true, true, true, true, true, true, true, true, true, true, true, true, true, true, true, true, false, false] rfl rfl (by kernel_rfl) (by decide) (fun K hK => ?_)
    refine goes_ Tryd.func28 (by kernel_rfl) rfl #[.agg (cells (andF ma (orF mb mc))), .agg (cells (orF (andF ma mb) (andF ma mc)))] (by rfl) rfl rfl (by simp only [List.map_toArray, List.map_cons, List.map_nil]; rfl) ?_
    with_reducible refine (same_is (andF ma (orF mb mc)) (orF (andF ma mb) (andF ma mc)) true (l6_9_26 ma mb mc) _).mono ?_
    rintro e_ w36 ⟨rfl, hb_⟩
    refine ⟨_, rfl, ?_⟩
    have B_w36 := Lib.hid (below_step (B_w35.out) hb_)
    have K_ma_w36 := Lib.hid (blk_below (K_ma_w35.out) hb_)
    have K_mb_w36 := Lib.hid (blk_below (K_mb_w35.out) hb_)
    have K_mc_w36 := Lib.hid (blk_below (K_mc_w35.out) hb_)
    clear hb_
    clear B_w35 K_ma_w35 K_mb_w35 K_mc_w35
    refine hK.out _ _ ⟨load27 K_ma_w36.out, load27 K_mb_w36.out, load27 K_mc_w36.out⟩ (fun hHeld => ?_)
    clear hK K
    refine norm_ (a' := ?_) ?_ ?_
    rotate_left
    · show Act.put _ (some 100) _ = _
      simp only [Act.put, List.setIfInBounds_toArray, List.set_cons_zero, List.set_cons_succ, i64_w, i32_w]
      rfl
    refine pure_ (i := 27) (N := some 101) (v := ?_) (a' := ?_) #[true, true, true, true, true, true, true, true, true, true, true, true, true, true, true, true, true, true, true, true, true, true, true, true, true, true, true, true, false] rfl rfl (by kernel_rfl) (fun _ _ _ h => h) (Or.inl ⟨by rfl, ?_⟩) ?_ ?_
    rotate_left
    · intro w'
      go_simp
      with_reducible rfl
    rotate_left
    · simp only [Act.put, List.setIfInBounds_toArray, List.set_cons_zero, List.set_cons_succ, i64_w, i32_w]
      rfl
    refine pure_ (i := 28) (N := some 13) (v := ?_) (a' := ?_) #[true, true, true, true, true, true, true, true, true, true, true, true, true, true, true, true, true, true, true, true, true, true, true, true, true, true, true, true, true] rfl rfl (by kernel_rfl) (fun _ _ _ h => h) (Or.inl ⟨by rfl, ?_⟩) ?_ ?_
    rotate_left
    · intro w'
      go_simp
      with_reducible rfl
    rotate_left
    · simp only [Act.put, List.setIfInBounds_toArray, List.set_cons_zero, List.set_cons_succ, i64_w, i32_w]
      rfl
    refine done_ (by kernel_rfl) ?_
    have nB := Lib.hid (B_w36.out)
    clear HB
    have HB := nB
    clear nB
    have n_ := Lib.hid (K_ma_w36.out)
    clear K_ma
    have K_ma := n_
    clear n_
    have n_ := Lib.hid (K_mb_w36.out)
    clear K_mb
    have K_mb := n_
    clear n_
    have n_ := Lib.hid (K_mc_w36.out)
    clear K_mc
    have K_mc := n_
    clear n_
    go_wp2_with fail
    refine start_ (n := 39) (S := fun w' => (loadVar 27 ⟨w3.heap.size, 0, none⟩).run Tryd.prog w' = .ok (.agg (cells ma)) w' ∧ (loadVar 27 ⟨w5.heap.size, 0, none⟩).run Tryd.prog w' = .ok (.agg (cells mb)) w' ∧ (loadVar 27 ⟨w7.heap.size, 0, none⟩).run Tryd.prog w' = .ok (.agg (cells mc)) w') (ds := []) #[false, false, false, false, false, false, false, false, false, false, false, false, false, false, false, false, false, false, false, false, false, false, false, false, false, false, false, false, false, false, false, false, false, false, false, false, false, false, false] (by kernel_rfl) rfl rfl ⟨load27 (blk_drew K_ma.out), load27 (blk_drew K_mb.out), load27 (blk_drew K_mc.out)⟩ (fun hHeld => ?_)
    refine pure_ (i := 0) (N := some 102) (v := ?_) (a' := ?_) #[true, false, false, false, false, false, false, false, false, false, false, false, false, false, false, false, false, false, false, false, false, false, false, false, false, false, false, false, false, false, false, false, false, false, false, false, false, false, false] rfl rfl (by kernel_rfl) (fun _ _ _ h => h) (Or.inl ⟨by rfl, ?_⟩) ?_ ?_
    rotate_left
    · intro w'
      go_simp
      with_reducible rfl
    rotate_left
    · simp only [Act.put, List.setIfInBounds_toArray, List.set_cons_zero, List.set_cons_succ, i64_w, i32_w]
      rfl
    refine pure_ (i := 1) (N := some 103) (v := ?_) (a' := ?_) #[true, true, false, false, false, false, false, false, false, false, false, false, false, false, false, false, false, false, false, false, false, false, false, false, false, false, false, false, false, false, false, false, false, false, false, false, false, false, false] rfl rfl (by kernel_rfl) (fun _ _ _ h => h) (Or.inl ⟨by rfl, ?_⟩) ?_ ?_
    rotate_left
    · intro w'
      go_simp
      with_reducible rfl
    rotate_left
    · simp only [Act.put, List.setIfInBounds_toArray, List.set_cons_zero, List.set_cons_succ, i64_w, i32_w]
      rfl
    refine pure_ (i := 2) (N := some 104) (v := ?_) (a' := ?_) #[true, true, true, false, false, false, false, false, false, false, false, false, false, false, false, false, false, false, false, false, false, false, false, false, false, false, false, false, false, false, false, false, false, false, false, false, false, false, false] rfl rfl (by kernel_rfl) (fun _ _ _ h => h) (Or.inl ⟨by rfl, ?_⟩) ?_ ?_
    rotate_left
    · intro w'
      go_simp
      with_reducible rfl
    rotate_left
    · simp only [Act.put, List.setIfInBounds_toArray, List.set_cons_zero, List.set_cons_succ, i64_w, i32_w]
      rfl
    refine pure_ (i := 3) (N := some 105) (v := ?_) (a' := ?_) #[true, true, true, true, false, false, false, false, false, false, false, false, false, false, false, false, false, false, false, false, false, false, false, false, false, false, false, false, false, false, false, false, false, false, false, false, false, false, false] rfl rfl (by kernel_rfl) (fun _ _ _ h => h) (Or.inl ⟨by rfl, ?_⟩) ?_ ?_
    rotate_left
    · intro w'
      go_simp
      with_reducible rfl
    rotate_left
    · simp only [Act.put, List.setIfInBounds_toArray, List.set_cons_zero, List.set_cons_succ, i64_w, i32_w]
      rfl
    refine pure_ (i := 4) (N := some 106) (v := ?_) (a' := ?_) #[true, true, true, true, true, false, false, false, false, false, false, false, false, false, false, false, false, false, false, false, false, false, false, false, false, false, false, false, false, false, false, false, false, false, false, false, false, false, false] rfl rfl (by kernel_rfl) (fun _ _ _ h => h) (Or.inl ⟨by rfl, ?_⟩) ?_ ?_
    rotate_left
    · intro w'
      go_simp
      with_reducible rfl
    rotate_left
    · simp only [Act.put, List.setIfInBounds_toArray, List.set_cons_zero, List.set_cons_succ, i64_w, i32_w]
      rfl
    refine take_ (i := 5) (N := some 107) (v := ?_) (a' := ?_) #[true, true, true, true, true, true, false, false, false, false, false, false, false, false, false, false, false, false, false, false, false, false, false, false, false, false, false, false, false, false, false, false, false, false, false, false, false, false, false] rfl rfl (by kernel_rfl) (fun _ _ _ h => h) (Or.inl ⟨by rfl, ?_⟩) hHeld ?_ ?_
    rotate_left
    · rintro w' ⟨s0, s1, s2⟩
      refine (exec_load _ _ 27 (.tmp 9) _ _ _ (by rfl) (by rfl) s0).trans ?_
      with_reducible rfl
    rotate_left
    · simp only [Act.put, List.setIfInBounds_toArray, List.set_cons_zero, List.set_cons_succ, i64_w, i32_w]
      rfl
    refine take_ (i := 6) (N := some 108) (v := ?_) (a' := ?_) #[true, true, true, true, true, true, true, false, false, false, false, false, false, false, false, false, false, false, false, false, false, false, false, false, false, false, false, false, false, false, false, false, false, false, false, false, false, false, false] rfl rfl (by kernel_rfl) (fun _ _ _ h => h) (Or.inl ⟨by rfl, ?_⟩) hHeld ?_ ?_
    rotate_left
    · rintro w' ⟨s0, s1, s2⟩
      refine (exec_load _ _ 27 (.tmp 10) _ _ _ (by rfl) (by rfl) s1).trans ?_
      with_reducible rfl
    rotate_left
    · simp only [Act.put, List.setIfInBounds_toArray, List.set_cons_zero, List.set_cons_succ, i64_w, i32_w]
      rfl
    refine take_ (i := 8) (N := some 110) (v := ?_) (a' := ?_) #[true, true, true, true, true, true, true, false, true, false, false, false, false, false, false, false, false, false, false, false, false, false, false, false, false, false, false, false, false, false, false, false, false, false, false, false, false, false, false] rfl rfl (by kernel_rfl) (fun _ _ _ h => h) (Or.inl ⟨by rfl, ?_⟩) hHeld ?_ ?_
    rotate_left
    · rintro w' ⟨s0, s1, s2⟩
      refine (exec_load _ _ 27 (.tmp 9) _ _ _ (by rfl) (by rfl) s0).trans ?_
      with_reducible rfl
    rotate_left
    · simp only [Act.put, List.setIfInBounds_toArray, List.set_cons_zero, List.set_cons_succ, i64_w, i32_w]
      rfl
    refine take_ (i := 9) (N := some 111) (v := ?_) (a' := ?_) #[true, true, true, true, true, true, true, false, true, true, false, false, false, false, false, false, false, false, false, false, false, false, false, false, false, false, false, false, false, false, false, false, false, false, false, false, false, false, false] rfl rfl (by kernel_rfl) (fun _ _ _ h => h) (Or.inl ⟨by rfl, ?_⟩) hHeld ?_ ?_
    rotate_left
    · rintro w' ⟨s0, s1, s2⟩
      refine (exec_load _ _ 27 (.tmp 10) _ _ _ (by rfl) (by rfl) s1).trans ?_
      with_reducible rfl
    rotate_left
    · simp only [Act.put, List.setIfInBounds_toArray, List.set_cons_zero, List.set_cons_succ, i64_w, i32_w]
      rfl
    refine take_ (i := 11) (N := some 113) (v := ?_) (a' := ?_) #[true, true, true, true, true, true, true, false, true, true, false, true, false, false, false, false, false, false, false, false, false, false, false, false, false, false, false, false, false, false, false, false, false, false, false, false, false, false, false] rfl rfl (by kernel_rfl) (fun _ _ _ h => h) (Or.inl ⟨by rfl, ?_⟩) hHeld ?_ ?_
    rotate_left
    · rintro w' ⟨s0, s1, s2⟩
      refine (exec_load _ _ 27 (.tmp 10) _ _ _ (by rfl) (by rfl) s1).trans ?_
      with_reducible rfl
    rotate_left
    · simp only [Act.put, List.setIfInBounds_toArray, List.set_cons_zero, List.set_cons_succ, i64_w, i32_w]
      rfl
    refine one_ (i := 7) (N := some 109) #[true, true, true, true, true, true, true, true, true, true, false, true, false, false, false, false, false, false, false, false, false, false, false, false, false, false, false, false, false, false, false, false, false, false, false, false, false, false, false] rfl rfl (by kernel_rfl) (by decide) (fun K hK => ?_)
    refine goes_ Tryd.func33 (by kernel_rfl) rfl #[.agg (cells ma), .agg (cells mb)] (by rfl) rfl rfl (by simp only [List.map_toArray, List.map_cons, List.map_nil]; rfl) ?_
    with_reducible refine (subset_any ma mb _).mono ?_
    rintro e_ w37 ⟨rfl, hb_⟩
    refine ⟨_, rfl, ?_⟩
    have B_w37 := Lib.hid (below_step ((below_drew HB.out)) hb_)
    have K_ma_w37 := Lib.hid (blk_below (blk_drew K_ma.out) hb_)
    have K_mb_w37 := Lib.hid (blk_below (blk_drew K_mb.out) hb_)
    have K_mc_w37 := Lib.hid (blk_below (blk_drew K_mc.out) hb_)
    clear hb_
    refine hK.out _ _ ⟨load27 K_ma_w37.out, load27 K_mb_w37.out, load27 K_mc_w37.out⟩ (fun hHeld => ?_)
    clear hK K
    refine norm_ (a' := ?_) ?_ ?_
    rotate_left
    · show Act.put _ (some 109) _ = _
      simp only [Act.put, List.setIfInBounds_toArray, List.set_cons_zero, List.set_cons_succ, i64_w, i32_w]
      rfl
    refine one_ (i := 10) (N := some 112) #[true, true, true, true, true, true, true, true, true, true, true, true, false, false, false, false, false, false, false, false, false, false, false, false, false, false, false, false, false, false, false, false, false, false, false, false, false, false, false] rfl rfl (by kernel_rfl) (by decide) (fun K hK => ?_)
    refine goes_ Tryd.func24 (by kernel_rfl) rfl #[.agg (cells ma), .agg (cells mb)] (by rfl) rfl rfl (by simp only [List.map_toArray, List.map_cons, List.map_nil]; rfl) ?_
    with_reducible refine (or_any ma mb _).mono ?_
    rintro e_ w38 ⟨rfl, hb_⟩
    refine ⟨_, rfl, ?_⟩
    have B_w38 := Lib.hid (below_step (B_w37.out) hb_)
    have K_ma_w38 := Lib.hid (blk_below (K_ma_w37.out) hb_)
    have K_mb_w38 := Lib.hid (blk_below (K_mb_w37.out) hb_)
    have K_mc_w38 := Lib.hid (blk_below (K_mc_w37.out) hb_)
    clear hb_
    clear B_w37 K_ma_w37 K_mb_w37 K_mc_w37
    refine hK.out _ _ ⟨load27 K_ma_w38.out, load27 K_mb_w38.out, load27 K_mc_w38.out⟩ (fun hHeld => ?_)
    clear hK K
    refine norm_ (a' := ?_) ?_ ?_
    rotate_left
    · show Act.put _ (some 112) _ = _
      simp only [Act.put, List.setIfInBounds_toArray, List.set_cons_zero, List.set_cons_succ, i64_w, i32_w]
      rfl
    refine one_ (i := 12) (N := some 114) #[true, true, true, true, true, true, true, true, true, true, true, true, true, false, false, false, false, false, false, false, false, false, false, false, false, false, false, false, false, false, false, false, false, false, false, false, false, false, false] rfl rfl (by kernel_rfl) (by decide) (fun K hK => ?_)
    refine goes_ Tryd.func28 (by kernel_rfl) rfl #[.agg (cells (orF ma mb)), .agg (cells mb)] (by rfl) rfl rfl (by simp only [List.map_toArray, List.map_cons, List.map_nil]; rfl) ?_
    with_reducible refine (same_any (orF ma mb) mb _).mono ?_
    rintro e_ w39 ⟨rfl, hb_⟩
    refine ⟨_, rfl, ?_⟩
    have B_w39 := Lib.hid (below_step (B_w38.out) hb_)
    have K_ma_w39 := Lib.hid (blk_below (K_ma_w38.out) hb_)
    have K_mb_w39 := Lib.hid (blk_below (K_mb_w38.out) hb_)
    have K_mc_w39 := Lib.hid (blk_below (K_mc_w38.out) hb_)
    clear hb_
    clear B_w38 K_ma_w38 K_mb_w38 K_mc_w38
    refine hK.out _ _ ⟨load27 K_ma_w39.out, load27 K_mb_w39.out, load27 K_mc_w39.out⟩ (fun hHeld => ?_)
    clear hK K
    refine norm_ (a' := ?_) ?_ ?_
    rotate_left
    · show Act.put _ (some 114) _ = _
      simp only [Act.put, List.setIfInBounds_toArray, List.set_cons_zero, List.set_cons_succ, i64_w, i32_w]
      rfl
    refine pure_ (i := 13) (N := some 115) (v := ?_) (a' := ?_) #[true, true, true, true, true, true, true, true, true, true, true, true, true, true, false, false, false, false, false, false, false, false, false, false, false, false, false, false, false, false, false, false, false, false, false, false, false, false, false] rfl rfl (by kernel_rfl) (fun _ _ _ h => h) (Or.inl ⟨by rfl, ?_⟩) ?_ ?_
    rotate_left
    · intro w'
      go_simp
      with_reducible rfl
    rotate_left
    · simp only [Act.put, List.setIfInBounds_toArray, List.set_cons_zero, List.set_cons_succ, i64_w, i32_w]
      rfl
    refine pure_ (i := 14) (N := some 116) (v := ?_) (a' := ?_) #[true, true, true, true, true, true, true, true, true, true, true, true, true, true, true, false, false, false, false, false, false, false, false, false, false, false, false, false, false, false, false, false, false, false, false, false, false, false, false] rfl rfl (by kernel_rfl) (fun _ _ _ h => h) (Or.inl ⟨by rfl, ?_⟩) ?_ ?_
    rotate_left
    · intro w'
      go_simp
      with_reducible rfl
    rotate_left
    · simp only [Act.put, List.setIfInBounds_toArray, List.set_cons_zero, List.set_cons_succ, i64_w, i32_w]
      rfl
    refine pure_ (i := 15) (N := some 117) (v := ?_) (a' := ?_) #[true, true, true, true, true, true, true, true, true, true, true, true, true, true, true, true, false, false, false, false, false, false, false, false, false, false, false, false, false, false, false, false, false, false, false, false, false, false, false] rfl rfl (by kernel_rfl) (fun _ _ _ h => h) (Or.inl ⟨by rfl, ?_⟩) ?_ ?_
    rotate_left
    · intro w'
      go_simp
      with_reducible rfl
    rotate_left
    · simp only [Act.put, List.setIfInBounds_toArray, List.set_cons_zero, List.set_cons_succ, i64_w, i32_w]
      rfl
    refine take_ (i := 16) (N := some 118) (v := ?_) (a' := ?_) #[true, true, true, true, true, true, true, true, true, true, true, true, true, true, true, true, true, false, false, false, false, false, false, false, false, false, false, false, false, false, false, false, false, false, false, false, false, false, false] rfl rfl (by kernel_rfl) (fun _ _ _ h => h) (Or.inl ⟨by rfl, ?_⟩) hHeld ?_ ?_
    rotate_left
    · rintro w' ⟨s0, s1, s2⟩
      refine (exec_load _ _ 27 (.tmp 9) _ _ _ (by rfl) (by rfl) s0).trans ?_
      with_reducible rfl
    rotate_left
    · simp only [Act.put, List.setIfInBounds_toArray, List.set_cons_zero, List.set_cons_succ, i64_w, i32_w]
      rfl
    refine take_ (i := 17) (N := some 119) (v := ?_) (a' := ?_) #[true, true, true, true, true, true, true, true, true, true, true, true, true, true, true, true, true, true, false, false, false, false, false, false, false, false, false, false, false, false, false, false, false, false, false, false, false, false, false] rfl rfl (by kernel_rfl) (fun _ _ _ h => h) (Or.inl ⟨by rfl, ?_⟩) hHeld ?_ ?_
    rotate_left
    · rintro w' ⟨s0, s1, s2⟩
      refine (exec_load _ _ 27 (.tmp 10) _ _ _ (by rfl) (by rfl) s1).trans ?_
      with_reducible rfl
    rotate_left
    · simp only [Act.put, List.setIfInBounds_toArray, List.set_cons_zero, List.set_cons_succ, i64_w, i32_w]
      rfl
    refine take_ (i := 19) (N := some 121) (v := ?_) (a' := ?_) #[true, true, true, true, true, true, true, true, true, true, true, true, true, true, true, true, true, true, false, true, false, false, false, false, false, false, false, false, false, false, false, false, false, false, false, false, false, false, false] rfl rfl (by kernel_rfl) (fun _ _ _ h => h) (Or.inl ⟨by rfl, ?_⟩) hHeld ?_ ?_
    rotate_left
    · rintro w' ⟨s0, s1, s2⟩
      refine (exec_load _ _ 27 (.tmp 9) _ _ _ (by rfl) (by rfl) s0).trans ?_
      with_reducible rfl
    rotate_left
    · simp only [Act.put, List.setIfInBounds_toArray, List.set_cons_zero, List.set_cons_succ, i64_w, i32_w]
      rfl
    refine one_ (i := 18) (N := some 120) #[true, true, true, true, true, true, true, true, true, true, true, true, true, true, true, true, true, true, true, true, false, false, false, false, false, false, false, false, false, false, false, false, false, false, false, false, false, false, false] rfl rfl (by kernel_rfl) (by decide) (fun K hK => ?_)
    refine goes_ Tryd.func26 (by kernel_rfl) rfl #[.agg (cells ma), .agg (cells mb)] (by rfl) rfl rfl (by simp only [List.map_toArray, List.map_cons, List.map_nil]; rfl) ?_
    with_reducible refine (and_any ma mb _).mono ?_
    rintro e_ w40 ⟨rfl, hb_⟩
    refine ⟨_, rfl, ?_⟩
    have B_w40 := Lib.hid (below_step (B_w39.out) hb_)
    have K_ma_w40 := Lib.hid (blk_below (K_ma_w39.out) hb_)
    have K_mb_w40 := Lib.hid (blk_below (K_mb_w39.out) hb_)
    have K_mc_w40 := Lib.hid (blk_below (K_mc_w39.out) hb_)
    clear hb_
    clear B_w39 K_ma_w39 K_mb_w39 K_mc_w39
    refine hK.out _ _ ⟨load27 K_ma_w40.out, load27 K_mb_w40.out, load27 K_mc_w40.out⟩ (fun hHeld => ?_)
    clear hK K
    refine norm_ (a' := ?_) ?_ ?_
    rotate_left
    · show Act.put _ (some 120) _ = _
      simp only [Act.put, List.setIfInBounds_toArray, List.set_cons_zero, List.set_cons_succ, i64_w, i32_w]
      rfl
    refine one_ (i := 20) (N := some 122) #[true, true, true, true, true, true, true, true, true, true, true, true, true, true, true, true, true, true, true, true, true, false, false, false, false, false, false, false, false, false, false, false, false, false, false, false, false, false, false] rfl rfl (by kernel_rfl) (by decide) (fun K hK => ?_)
    refine goes_ Tryd.func33 (by kernel_rfl) rfl #[.agg (cells (andF ma mb)), .agg (cells ma)] (by rfl) rfl rfl (by simp only [List.map_toArray, List.map_cons, List.map_nil]; rfl) ?_
    with_reducible refine (subset_is (andF ma mb) ma true (l6_10_20 ma mb mc) _).mono ?_
    rintro e_ w41 ⟨rfl, hb_⟩
    refine ⟨_, rfl, ?_⟩
    have B_w41 := Lib.hid (below_step (B_w40.out) hb_)
    have K_ma_w41 := Lib.hid (blk_below (K_ma_w40.out) hb_)
    have K_mb_w41 := Lib.hid (blk_below (K_mb_w40.out) hb_)
    have K_mc_w41 := Lib.hid (blk_below (K_mc_w40.out) hb_)
    clear hb_
    clear B_w40 K_ma_w40 K_mb_w40 K_mc_w40
    refine hK.out _ _ ⟨load27 K_ma_w41.out, load27 K_mb_w41.out, load27 K_mc_w41.out⟩ (fun hHeld => ?_)
    clear hK K
    refine norm_ (a' := ?_) ?_ ?_
    rotate_left
    · show Act.put _ (some 122) _ = _
      simp only [Act.put, List.setIfInBounds_toArray, List.set_cons_zero, List.set_cons_succ, i64_w, i32_w]
      rfl
    refine pure_ (i := 21) (N := some 123) (v := ?_) (a' := ?_) #[true, true, true, true, true, true, true, true, true, true, true, true, true, true, true, true, true, true, true, true, true, true, false, false, false, false, false, false, false, false, false, false, false, false, false, false, false, false, false] rfl rfl (by kernel_rfl) (fun _ _ _ h => h) (Or.inl ⟨by rfl, ?_⟩) ?_ ?_
    rotate_left
    · intro w'
      go_simp
      with_reducible rfl
    rotate_left
    · simp only [Act.put, List.setIfInBounds_toArray, List.set_cons_zero, List.set_cons_succ, i64_w, i32_w]
      rfl
    refine pure_ (i := 22) (N := some 124) (v := ?_) (a' := ?_) #[true, true, true, true, true, true, true, true, true, true, true, true, true, true, true, true, true, true, true, true, true, true, true, false, false, false, false, false, false, false, false, false, false, false, false, false, false, false, false] rfl rfl (by kernel_rfl) (fun _ _ _ h => h) (Or.inl ⟨by rfl, ?_⟩) ?_ ?_
    rotate_left
    · intro w'
      go_simp
      with_reducible rfl
    rotate_left
    · simp only [Act.put, List.setIfInBounds_toArray, List.set_cons_zero, List.set_cons_succ, i64_w, i32_w]
      rfl
    refine take_ (i := 23) (N := some 125) (v := ?_) (a' := ?_) #[true, true, true, true, true, true, true, true, true, true, true, true, true, true, true, true, true, true, true, true, true, true, true, true, false, false, false, false, false, false, false, false, false, false, false, false, false, false, false] rfl rfl (by kernel_rfl) (fun _ _ _ h => h) (Or.inl ⟨by rfl, ?_⟩) hHeld ?_ ?_
    rotate_left
    · rintro w' ⟨s0, s1, s2⟩
      refine (exec_load _ _ 27 (.tmp 9) _ _ _ (by rfl) (by rfl) s0).trans ?_
      with_reducible rfl
    rotate_left
    · simp only [Act.put, List.setIfInBounds_toArray, List.set_cons_zero, List.set_cons_succ, i64_w, i32_w]
      rfl
    refine take_ (i := 24) (N := some 126) (v := ?_) (a' := ?_) #[true, true, true, true, true, true, true, true, true, true, true, true, true, true, true, true, true, true, true, true, true, true, true, true, true, false, false, false, false, false, false, false, false, false, false, false, false, false, false] rfl rfl (by kernel_rfl) (fun _ _ _ h => h) (Or.inl ⟨by rfl, ?_⟩) hHeld ?_ ?_
    rotate_left
    · rintro w' ⟨s0, s1, s2⟩
      refine (exec_load _ _ 27 (.tmp 9) _ _ _ (by rfl) (by rfl) s0).trans ?_
      with_reducible rfl
    rotate_left
    · simp only [Act.put, List.setIfInBounds_toArray, List.set_cons_zero, List.set_cons_succ, i64_w, i32_w]
      rfl
    refine take_ (i := 25) (N := some 127) (v := ?_) (a' := ?_) #[true, true, true, true, true, true, true, true, true, true, true, true, true, true, true, true, true, true, true, true, true, true, true, true, true, true, false, false, false, false, false, false, false, false, false, false, false, false, false] rfl rfl (by kernel_rfl) (fun _ _ _ h => h) (Or.inl ⟨by rfl, ?_⟩) hHeld ?_ ?_
    rotate_left
    · rintro w' ⟨s0, s1, s2⟩
      refine (exec_load _ _ 27 (.tmp 10) _ _ _ (by rfl) (by rfl) s1).trans ?_
      with_reducible rfl
    rotate_left
    · simp only [Act.put, List.setIfInBounds_toArray, List.set_cons_zero, List.set_cons_succ, i64_w, i32_w]
      rfl
    refine one_ (i := 26) (N := some 128) #[true, true, true, true, true, true, true, true, true, true, true, true, true, true, true, true, true, true, true, true, true, true, true, true, true, true, true, false, false, false, false, false, false, false, false, false, false, false, false] rfl rfl (by kernel_rfl) (by decide) (fun K hK => ?_)
    refine goes_ Tryd.func24 (by kernel_rfl) rfl #[.agg (cells ma), .agg (cells mb)] (by rfl) rfl rfl (by simp only [List.map_toArray, List.map_cons, List.map_nil]; rfl) ?_
    with_reducible refine (or_any ma mb _).mono ?_
    rintro e_ w42 ⟨rfl, hb_⟩
    refine ⟨_, rfl, ?_⟩
    have B_w42 := Lib.hid (below_step (B_w41.out) hb_)
    have K_ma_w42 := Lib.hid (blk_below (K_ma_w41.out) hb_)
    have K_mb_w42 := Lib.hid (blk_below (K_mb_w41.out) hb_)
    have K_mc_w42 := Lib.hid (blk_below (K_mc_w41.out) hb_)
    clear hb_
    clear B_w41 K_ma_w41 K_mb_w41 K_mc_w41
    refine hK.out _ _ ⟨load27 K_ma_w42.out, load27 K_mb_w42.out, load27 K_mc_w42.out⟩ (fun hHeld => ?_)
    clear hK K
    refine norm_ (a' := ?_) ?_ ?_
    rotate_left
    · show Act.put _ (some 128) _ = _
      simp only [Act.put, List.setIfInBounds_toArray, List.set_cons_zero, List.set_cons_succ, i64_w, i32_w]
      rfl
    refine one_ (i := 27) (N := some 129) #[true, true, true, true, true, true, true, true, true, true, true, true, true, true, true, true, true, true, true, true, true, true, true, true, true, true, true, true, false, false, false, false, false, false, false, false, false, false, false] rfl rfl (by kernel_rfl) (by decide) (fun K hK => ?_)
    refine goes_ Tryd.func33 (by kernel_rfl) rfl #[.agg (cells ma), .agg (cells (orF ma mb))] (by rfl) rfl rfl (by simp only [List.map_toArray, List.map_cons, List.map_nil]; rfl) ?_
    with_reducible refine (subset_is ma (orF ma mb) true (l6_10_27 ma mb mc) _).mono ?_
    rintro e_ w43 ⟨rfl, hb_⟩
    refine ⟨_, rfl, ?_⟩
    have B_w43 := Lib.hid (below_step (B_w42.out) hb_)
    have K_ma_w43 := Lib.hid (blk_below (K_ma_w42.out) hb_)
    have K_mb_w43 := Lib.hid (blk_below (K_mb_w42.out) hb_)
    have K_mc_w43 := Lib.hid (blk_below (K_mc_w42.out) hb_)
    clear hb_
    clear B_w42 K_ma_w42 K_mb_w42 K_mc_w42
    refine hK.out _ _ ⟨load27 K_ma_w43.out, load27 K_mb_w43.out, load27 K_mc_w43.out⟩ (fun hHeld => ?_)
    clear hK K
    refine norm_ (a' := ?_) ?_ ?_
    rotate_left
    · show Act.put _ (some 129) _ = _
      simp only [Act.put, List.setIfInBounds_toArray, List.set_cons_zero, List.set_cons_succ, i64_w, i32_w]
      rfl
    refine pure_ (i := 28) (N := some 130) (v := ?_) (a' := ?_) #[true, true, true, true, true, true, true, true, true, true, true, true, true, true, true, true, true, true, true, true, true, true, true, true, true, true, true, true, true, false, false, false, false, false, false, false, false, false, false] rfl rfl (by kernel_rfl) (fun _ _ _ h => h) (Or.inl ⟨by rfl, ?_⟩) ?_ ?_
    rotate_left
    · intro w'
      go_simp
      with_reducible rfl
    rotate_left
    · simp only [Act.put, List.setIfInBounds_toArray, List.set_cons_zero, List.set_cons_succ, i64_w, i32_w]
      rfl
    refine pure_ (i := 29) (N := some 131) (v := ?_) (a' := ?_) #[true, true, true, true, true, true, true, true, true, true, true, true, true, true, true, true, true, true, true, true, true, true, true, true, true, true, true, true, true, true, false, false, false, false, false, false, false, false, false] rfl rfl (by kernel_rfl) (fun _ _ _ h => h) (Or.inl ⟨by rfl, ?_⟩) ?_ ?_
    rotate_left
    · intro w'
      go_simp
      with_reducible rfl
    rotate_left
    · simp only [Act.put, List.setIfInBounds_toArray, List.set_cons_zero, List.set_cons_succ, i64_w, i32_w]
      rfl
    refine take_ (i := 30) (N := some 132) (v := ?_) (a' := ?_) #[true, true, true, true, true, true, true, true, true, true, true, true, true, true, true, true, true, true, true, true, true, true, true, true, true, true, true, true, true, true, true, false, false, false, false, false, false, false, false] rfl rfl (by kernel_rfl) (fun _ _ _ h => h) (Or.inl ⟨by rfl, ?_⟩) hHeld ?_ ?_
    rotate_left
    · rintro w' ⟨s0, s1, s2⟩
      refine (exec_load _ _ 27 (.tmp 9) _ _ _ (by rfl) (by rfl) s0).trans ?_
      with_reducible rfl
    rotate_left
    · simp only [Act.put, List.setIfInBounds_toArray, List.set_cons_zero, List.set_cons_succ, i64_w, i32_w]
      rfl
    refine take_ (i := 31) (N := some 133) (v := ?_) (a' := ?_) #[true, true, true, true, true, true, true, true, true, true, true, true, true, true, true, true, true, true, true, true, true, true, true, true, true, true, true, true, true, true, true, true, false, false, false, false, false, false, false] rfl rfl (by kernel_rfl) (fun _ _ _ h => h) (Or.inl ⟨by rfl, ?_⟩) hHeld ?_ ?_
    rotate_left
    · rintro w' ⟨s0, s1, s2⟩
      refine (exec_load _ _ 27 (.tmp 10) _ _ _ (by rfl) (by rfl) s1).trans ?_
      with_reducible rfl
    rotate_left
    · simp only [Act.put, List.setIfInBounds_toArray, List.set_cons_zero, List.set_cons_succ, i64_w, i32_w]
      rfl
    refine take_ (i := 33) (N := some 135) (v := ?_) (a' := ?_) #[true, true, true, true, true, true, true, true, true, true, true, true, true, true, true, true, true, true, true, true, true, true, true, true, true, true, true, true, true, true, true, true, false, true, false, false, false, false, false] rfl rfl (by kernel_rfl) (fun _ _ _ h => h) (Or.inl ⟨by rfl, ?_⟩) hHeld ?_ ?_
    rotate_left
    · rintro w' ⟨s0, s1, s2⟩
      refine (exec_load _ _ 27 (.tmp 10) _ _ _ (by rfl) (by rfl) s1).trans ?_
      with_reducible rfl
    rotate_left
    · simp only [Act.put, List.setIfInBounds_toArray, List.set_cons_zero, List.set_cons_succ, i64_w, i32_w]
      rfl
    refine one_ (i := 32) (N := some 134) #[true, true, true, true, true, true, true, true, true, true, true, true, true, true, true, true, true, true, true, true, true, true, true, true, true, true, true, true, true, true, true, true, true, true, false, false, false, false, false] rfl rfl (by kernel_rfl) (by decide) (fun K hK => ?_)
    refine goes_ Tryd.func27 (by kernel_rfl) rfl #[.agg (cells ma), .agg (cells mb)] (by rfl) rfl rfl (by simp only [List.map_toArray, List.map_cons, List.map_nil]; rfl) ?_
    with_reducible refine (minus_any ma mb _).mono ?_
    rintro e_ w44 ⟨rfl, hb_⟩
    refine ⟨_, rfl, ?_⟩
    have B_w44 := Lib.hid (below_step (B_w43.out) hb_)
    have K_ma_w44 := Lib.hid (blk_below (K_ma_w43.out) hb_)
    have K_mb_w44 := Lib.hid (blk_below (K_mb_w43.out) hb_)
    have K_mc_w44 := Lib.hid (blk_below (K_mc_w43.out) hb_)
    clear hb_
    clear B_w43 K_ma_w43 K_mb_w43 K_mc_w43
    refine hK.out _ _ ⟨load27 K_ma_w44.out, load27 K_mb_w44.out, load27 K_mc_w44.out⟩ (fun hHeld => ?_)
    clear hK K
    refine norm_ (a' := ?_) ?_ ?_
    rotate_left
    · show Act.put _ (some 134) _ = _
      simp only [Act.put, List.setIfInBounds_toArray, List.set_cons_zero, List.set_cons_succ, i64_w, i32_w]
      rfl
    refine one_ (i := 34) (N := some 136) #[true, true, true, true, true, true, true, true, true, true, true, true, true, true, true, true, true, true, true, true, true, true, true, true, true, true, true, true, true, true, true, true, true, true, true, false, false, false, false] rfl rfl (by kernel_rfl) (by decide) (fun K hK => ?_)
    refine goes_ Tryd.func26 (by kernel_rfl) rfl #[.agg (cells (minF ma mb)), .agg (cells mb)] (by rfl) rfl rfl (by simp only [List.map_toArray, List.map_cons, List.map_nil]; rfl) ?_
    with_reducible refine (and_any (minF ma mb) mb _).mono ?_
    rintro e_ w45 ⟨rfl, hb_⟩
    refine ⟨_, rfl, ?_⟩
    have B_w45 := Lib.hid (below_step (B_w44.out) hb_)
    have K_ma_w45 := Lib.hid (blk_below (K_ma_w44.out) hb_)
    have K_mb_w45 := Lib.hid (blk_below (K_mb_w44.out) hb_)
    have K_mc_w45 := Lib.hid (blk_below (K_mc_w44.out) hb_)
    clear hb_
    clear B_w44 K_ma_w44 K_mb_w44 K_mc_w44
    refine hK.out _ _ ⟨load27 K_ma_w45.out, load27 K_mb_w45.out, load27 K_mc_w45.out⟩ (fun hHeld => ?_)
    clear hK K
    refine norm_ (a' := ?_) ?_ ?_
    rotate_left
    · show Act.put _ (some 136) _ = _
      simp only [Act.put, List.setIfInBounds_toArray, List.set_cons_zero, List.set_cons_succ, i64_w, i32_w]
      rfl
    refine one_ (i := 35) (N := some 137) #[true, true, true, true, true, true, true, true, true, true, true, true, true, true, true, true, true, true, true, true, true, true, true, true, true, true, true, true, true, true, true, true, true, true, true, true, false, false, false] rfl rfl (by kernel_rfl) (by decide) (fun K hK => ?_)
    refine goes_ Tryd.func25 (by kernel_rfl) rfl #[.agg (cells (andF (minF ma mb) mb))] (by rfl) rfl rfl (by simp only [List.map_toArray, List.map_cons, List.map_nil]; rfl) ?_
    with_reducible refine (count_nil (andF (minF ma mb) mb) (l6_10_35 ma mb mc) _).mono ?_
    rintro e_ w46 ⟨rfl, hb_⟩
    refine ⟨_, rfl, ?_⟩
    have B_w46 := Lib.hid (below_step (B_w45.out) hb_)
    have K_ma_w46 := Lib.hid (blk_below (K_ma_w45.out) hb_)
    have K_mb_w46 := Lib.hid (blk_below (K_mb_w45.out) hb_)
    have K_mc_w46 := Lib.hid (blk_below (K_mc_w45.out) hb_)
    clear hb_
    clear B_w45 K_ma_w45 K_mb_w45 K_mc_w45
    refine hK.out _ _ ⟨load27 K_ma_w46.out, load27 K_mb_w46.out, load27 K_mc_w46.out⟩ (fun hHeld => ?_)
    clear hK K
    refine norm_ (a' := ?_) ?_ ?_
    rotate_left
    · show Act.put _ (some 137) _ = _
      simp only [Act.put, List.setIfInBounds_toArray, List.set_cons_zero, List.set_cons_succ, i64_w, i32_w]
      rfl
    refine pure_ (i := 36) (N := some 138) (v := ?_) (a' := ?_) #[true, true, true, true, true, true, true, true, true, true, true, true, true, true, true, true, true, true, true, true, true, true, true, true, true, true, true, true, true, true, true, true, true, true, true, true, true, false, false] rfl rfl (by kernel_rfl) (fun _ _ _ h => h) (Or.inl ⟨by rfl, ?_⟩) ?_ ?_
    rotate_left
    · intro w'
      go_simp
      with_reducible rfl
    rotate_left
    · simp only [Act.put, List.setIfInBounds_toArray, List.set_cons_zero, List.set_cons_succ, i64_w, i32_w]
      rfl
    refine pure_ (i := 37) (N := some 139) (v := ?_) (a' := ?_) #[true, true, true, true, true, true, true, true, true, true, true, true, true, true, true, true, true, true, true, true, true, true, true, true, true, true, true, true, true, true, true, true, true, true, true, true, true, true, false] rfl rfl (by kernel_rfl) (fun _ _ _ h => h) (Or.inl ⟨by rfl, ?_⟩) ?_ ?_
    rotate_left
    · intro w'
      go_simp
      with_reducible rfl
    rotate_left
    · simp only [Act.put, List.setIfInBounds_toArray, List.set_cons_zero, List.set_cons_succ, i64_w, i32_w]
      rfl
    refine pure_ (i := 38) (N := some 6) (v := ?_) (a' := ?_) #[true, true, true, true, true, true, true, true, true, true, true, true, true, true, true, true, true, true, true, true, true, true, true, true, true, true, true, true, true, true, true, true, true, true, true, true, true, true, true] rfl rfl (by kernel_rfl) (fun _ _ _ h => h) (Or.inl ⟨by rfl, ?_⟩) ?_ ?_
    rotate_left
    · intro w'
      go_simp
      with_reducible rfl
    rotate_left
    · simp only [Act.put, List.setIfInBounds_toArray, List.set_cons_zero, List.set_cons_succ, i64_w, i32_w]
      rfl
    refine done_ (by kernel_rfl) ?_
    have nB := Lib.hid (B_w46.out)
    clear HB
    have HB := nB
    clear nB
    have n_ := Lib.hid (K_ma_w46.out)
    clear K_ma
    have K_ma := n_
    clear n_
    have n_ := Lib.hid (K_mb_w46.out)
    clear K_mb
    have K_mb := n_
    clear n_
    have n_ := Lib.hid (K_mc_w46.out)
    clear K_mc
    have K_mc := n_
    clear n_
    go_wp2_with fail
    go_ret
    exact ⟨rfl, HB.out⟩
  · have hno : shortB l0.length l1.length l2.length = false := by simpa using hsh
    have HS := Lib.hid hno
    clear hsh hno
    go_wp2_with fail
    refine (short_any A0 c0 l0 A1 c1 l1 A2 c2 l2 false HS.out _ (Kd.C_below HC0.out (by (with_reducible repeat (first | apply below_alloc | apply pw_below_drewN | apply below_drew1)); exact HB.out)) HL0.out (Kd.C_below HC1.out (by (with_reducible repeat (first | apply below_alloc | apply pw_below_drewN | apply below_drew1)); exact HB.out)) HL1.out (Kd.C_below HC2.out (by (with_reducible repeat (first | apply below_alloc | apply pw_below_drewN | apply below_drew1)); exact HB.out)) HL2.out).mono ?_
    rintro e_ w2 ⟨rfl, hb_⟩
    have nB : Hid (Below w.heap.size w w2) := Lib.hid (below_step (by (with_reducible repeat (first | apply below_alloc | apply pw_below_drewN | apply below_drew1)); exact HB.out) hb_)
    clear HB
    have HB := nB
    clear nB
    clear hb_
    go_wp2_with fail
    go_ret
    exact ⟨rfl, HB.out⟩
end Go.Proofs.YtjcppnleoahaiaaDoor.P
