/- BitsCount, walked. -/
import Derived.Test.YtjcppnleoahaiaaDoorBitsS
namespace Go.Proofs.YtjcppnleoahaiaaDoor.P
open Go.RowKit Go.Proofs.YtjcppnleoahaiaaDoorW.PrintWords Go.Proofs.YtjcppnleoahaiaaDoorW.PrintLast Go.Proofs.YtjcppnleoahaiaaDoorW.PrintMore
set_option linter.unusedVariables false
set_option linter.unusedSimpArgs false

set_option maxRecDepth 100000 in
set_option maxHeartbeats 8000000 in
theorem bitsCount_any (A0 : Option Addr) (c0 : Nat) (l0 : List Int) (A1 : Option Addr) (c1 : Nat) (l1 : List Int) (w : World) (hT : Tabs w) (hr0 : Kd.C (Kd.int .i64) w A0 l0.length l0) (hc0 : l0.length ≤ c0) (hr1 : Kd.C (Kd.int .i64) w A1 l1.length l1) (hc1 : l1.length ≤ c1) :
    Calls Tryd.prog 4 #[.slice A0 l0.length c0, .slice A1 l1.length c1] w fun e w' => e = .returned (.bool true) ∧ Below w.heap.size w w' := by
  have HT := Lib.hid hT
  have HC0 := Lib.hid hr0
  have HL0 := Lib.hid hc0
  have HC1 := Lib.hid hr1
  have HL1 := Lib.hid hc1
  clear hT hr0 hc0 hr1 hc1
  have HB : Hid (Below w.heap.size w w) := Lib.hid (Below.refl _ _)
  go_enter Tryd.func4, Tryd.ntmps4
  go_wp2_with fail
  refine (shown_any _ (HT.out.below (by (with_reducible repeat (first | apply below_alloc | apply pw_below_drewN | apply below_drew1)); exact HB.out) HT.out.2.2)).mono ?_
  rintro e_ w1 ⟨rfl, hb_⟩
  have nB : Hid (Below w.heap.size w w1) := Lib.hid (below_step (by (with_reducible repeat (first | apply below_alloc | apply pw_below_drewN | apply below_drew1)); exact HB.out) hb_)
  clear HB
  have HB := nB
  clear nB
  clear hb_
  by_cases hsh : shortB l0.length l1.length 0 = true
  · have HS := Lib.hid hsh
    clear hsh
    go_wp2_with fail
    refine (short_any A0 c0 l0 A1 c1 l1 none 0 [] true HS.out _ (Kd.C_below HC0.out (by (with_reducible repeat (first | apply below_alloc | apply pw_below_drewN | apply below_drew1)); exact HB.out)) HL0.out (Kd.C_below HC1.out (by (with_reducible repeat (first | apply below_alloc | apply pw_below_drewN | apply below_drew1)); exact HB.out)) HL1.out (Kd.C_nil _ _) (Nat.le_refl _)).mono ?_
    rintro e_ w2 ⟨rfl, hb_⟩
    have nB : Hid (Below w.heap.size w w2) := Lib.hid (below_step (by (with_reducible repeat (first | apply below_alloc | apply pw_below_drewN | apply below_drew1)); exact HB.out) hb_)
    clear HB
    have HB := nB
    clear nB
    clear hb_
    go_wp2_with fail
    refine (of_any A0 c0 l0 _ (Kd.C_below HC0.out (by (with_reducible repeat (first | apply below_alloc | apply pw_below_drewN | apply below_drew1)); exact HB.out))).mono ?_
    rintro e_ w3 ⟨rfl, hb_⟩
    have nB : Hid (Below w.heap.size w w3) := Lib.hid (below_step (by (with_reducible repeat (first | apply below_alloc | apply pw_below_drewN | apply below_drew1)); exact HB.out) hb_)
    clear HB
    have HB := nB
    clear nB
    clear hb_
    obtain ⟨ma, hm_⟩ : ∃ m_ : Nat → Bool, m_ = ofF l0 := ⟨_, rfl⟩
    rw [← hm_]
    have M_ma := Lib.hid hm_
    clear hm_
    go_wp2_with (((with_reducible refine gate_dst (N := 7) rfl ?_); refine Stp.out ?_))
    unfold Stp
    refine wpList_var27 rfl rfl rfl rfl rfl _ rfl ma rfl rfl ?_
    intro w4 hk_ hb_
    have K_ma : Hid (w4.heap[w3.heap.size]? = some (.cells (cells ma) 27 (0, 0))) := Lib.hid hk_
    clear hk_
    have nB : Hid (Below w.heap.size w w4) := Lib.hid (below_step (by (with_reducible repeat (first | apply below_alloc | apply pw_below_drewN | apply below_drew1)); exact HB.out) hb_)
    clear HB
    have HB := nB
    clear nB
    clear hb_
    clear M_ma
    go_wp2_with fail
    refine (of_any A1 c1 l1 _ (Kd.C_below HC1.out (by (with_reducible repeat (first | apply below_alloc | apply pw_below_drewN | apply below_drew1)); exact HB.out))).mono ?_
    rintro e_ w5 ⟨rfl, hb_⟩
    have nB : Hid (Below w.heap.size w w5) := Lib.hid (below_step (by (with_reducible repeat (first | apply below_alloc | apply pw_below_drewN | apply below_drew1)); exact HB.out) hb_)
    clear HB
    have HB := nB
    clear nB
    have n_ma : Hid (w5.heap[w3.heap.size]? = some (.cells (cells ma) 27 (0, 0))) := Lib.hid (blk_below (by (with_reducible repeat (first | refine blk_drewN ?_ _ | refine blk_drew ?_ | refine blk_alloc ?_ _)); exact K_ma.out) hb_)
    clear K_ma
    have K_ma := n_ma
    clear n_ma
    clear hb_
    obtain ⟨mb, hm_⟩ : ∃ m_ : Nat → Bool, m_ = ofF l1 := ⟨_, rfl⟩
    rw [← hm_]
    have M_mb := Lib.hid hm_
    clear hm_
    go_wp2_with (((with_reducible refine gate_dst (N := 8) rfl ?_); refine Stp.out ?_))
    unfold Stp
    refine wpList_var27 rfl rfl rfl rfl rfl _ rfl mb rfl rfl ?_
    intro w6 hk_ hb_
    have K_mb : Hid (w6.heap[w5.heap.size]? = some (.cells (cells mb) 27 (0, 0))) := Lib.hid hk_
    clear hk_
    have nB : Hid (Below w.heap.size w w6) := Lib.hid (below_step (by (with_reducible repeat (first | apply below_alloc | apply pw_below_drewN | apply below_drew1)); exact HB.out) hb_)
    clear HB
    have HB := nB
    clear nB
    have n_ma : Hid (w6.heap[w3.heap.size]? = some (.cells (cells ma) 27 (0, 0))) := Lib.hid (blk_below (by (with_reducible repeat (first | refine blk_drewN ?_ _ | refine blk_drew ?_ | refine blk_alloc ?_ _)); exact K_ma.out) hb_)
    clear K_ma
    have K_ma := n_ma
    clear n_ma
    clear hb_
    clear M_mb
    have e1 := cnt_or ma mb 4096
    have e2 := cnt_min ma mb 4096
    have e3 := cnt_nought ma
    have e4 := same_text ma mb
    have le_nO := cnt_most (orF ma mb) 4096
    obtain ⟨nO, h_nO⟩ : ∃ n_ : Nat, cnt (orF ma mb) 4096 = n_ := ⟨_, rfl⟩
    have HnO := Lib.hid h_nO
    rw [h_nO] at le_nO
    have le_nX := cnt_most (andF ma mb) 4096
    obtain ⟨nX, h_nX⟩ : ∃ n_ : Nat, cnt (andF ma mb) 4096 = n_ := ⟨_, rfl⟩
    have HnX := Lib.hid h_nX
    rw [h_nX] at le_nX
    have le_na := cnt_most ma 4096
    obtain ⟨na, h_na⟩ : ∃ n_ : Nat, cnt ma 4096 = n_ := ⟨_, rfl⟩
    have Hna := Lib.hid h_na
    rw [h_na] at le_na
    have le_nb := cnt_most mb 4096
    obtain ⟨nb, h_nb⟩ : ∃ n_ : Nat, cnt mb 4096 = n_ := ⟨_, rfl⟩
    have Hnb := Lib.hid h_nb
    rw [h_nb] at le_nb
    have le_nM := cnt_most (minF ma mb) 4096
    obtain ⟨nM, h_nM⟩ : ∃ n_ : Nat, cnt (minF ma mb) 4096 = n_ := ⟨_, rfl⟩
    have HnM := Lib.hid h_nM
    rw [h_nM] at le_nM
    rw [h_nO, h_nX, h_na, h_nb] at e1
    rw [h_nM, h_nX, h_na] at e2
    rw [h_na] at e3
    clear h_nO h_nX h_na h_nb h_nM
    obtain ⟨x0, h_⟩ : ∃ x_, nextF ma 0 = x_ := ⟨_, rfl⟩
    have Hx0 := Lib.hid h_
    rw [h_] at e3
    clear h_
    obtain ⟨bs, h_⟩ : ∃ x_, sameF ma mb = x_ := ⟨_, rfl⟩
    have Hbs := Lib.hid h_
    rw [h_] at e4
    clear h_
    obtain ⟨tma, h_⟩ : ∃ x_, textF ma = x_ := ⟨_, rfl⟩
    have Htma := Lib.hid h_
    rw [h_] at e4
    clear h_
    obtain ⟨tmb, h_⟩ : ∃ x_, textF mb = x_ := ⟨_, rfl⟩
    have Htmb := Lib.hid h_
    rw [h_] at e4
    clear h_
    have f1 : (wrap64 ((nO : Int) + (nX : Int)) == wrap64 ((na : Int) + (nb : Int))) = true := by rw [beq_iff_eq, show (nO : Int) + (nX : Int) = (na : Int) + (nb : Int) by omega]
    have f2 : ((nM : Int) == wrap64 ((na : Int) - (nX : Int))) = true := by rw [beq_iff_eq]; unfold wrap64; omega
    obtain ⟨b0, f3⟩ : ∃ b_, ((na : Int) == 0) = b_ := ⟨_, rfl⟩
    have f4 : (x0 == -1) = b0 := by rw [← f3, Bool.eq_iff_iff, beq_iff_eq, beq_iff_eq, ← e3]; omega
    have f5 : (tma == tmb) = bs := by rw [Bool.eq_iff_iff, beq_iff_eq]; exact e4
    have le_X : nX ≤ na := by omega
    clear e1 e2 e3 e4
    go_wp2_with fail
    refine start_ (n := 50) (S := fun w' => (loadVar 27 ⟨w3.heap.size, 0, none⟩).run Tryd.prog w' = .ok (.agg (cells ma)) w' ∧ (loadVar 27 ⟨w5.heap.size, 0, none⟩).run Tryd.prog w' = .ok (.agg (cells mb)) w') (ds := []) #[false, false, false, false, false, false, false, false, false, false, false, false, false, false, false, false, false, false, false, false, false, false, false, false, false, false, false, false, false, false, false, false, false, false, false, false, false, false, false, false, false, false, false, false, false, false, false, false, false, false] (by kernel_rfl) rfl rfl ⟨load27 (blk_drew K_ma.out), load27 (blk_drew K_mb.out)⟩ (fun hHeld => ?_)
    refine take_ (i := 0) (N := some 24) (v := ?_) (a' := ?_) #[true, false, false, false, false, false, false, false, false, false, false, false, false, false, false, false, false, false, false, false, false, false, false, false, false, false, false, false, false, false, false, false, false, false, false, false, false, false, false, false, false, false, false, false, false, false, false, false, false, false] rfl rfl (by kernel_rfl) (fun _ _ _ h => h) (Or.inl ⟨by rfl, ?_⟩) hHeld ?_ ?_
    rotate_left
    · rintro w' ⟨s0, s1⟩
      refine (exec_load _ _ 27 (.tmp 7) _ _ _ (by rfl) (by rfl) s0).trans ?_
      with_reducible rfl
    rotate_left
    · simp only [Act.put, List.setIfInBounds_toArray, List.set_cons_zero, List.set_cons_succ, i64_w, i32_w]
      rfl
    refine take_ (i := 1) (N := some 25) (v := ?_) (a' := ?_) #[true, true, false, false, false, false, false, false, false, false, false, false, false, false, false, false, false, false, false, false, false, false, false, false, false, false, false, false, false, false, false, false, false, false, false, false, false, false, false, false, false, false, false, false, false, false, false, false, false, false] rfl rfl (by kernel_rfl) (fun _ _ _ h => h) (Or.inl ⟨by rfl, ?_⟩) hHeld ?_ ?_
    rotate_left
    · rintro w' ⟨s0, s1⟩
      refine (exec_load _ _ 27 (.tmp 8) _ _ _ (by rfl) (by rfl) s1).trans ?_
      with_reducible rfl
    rotate_left
    · simp only [Act.put, List.setIfInBounds_toArray, List.set_cons_zero, List.set_cons_succ, i64_w, i32_w]
      rfl
    refine take_ (i := 4) (N := some 28) (v := ?_) (a' := ?_) #[true, true, false, false, true, false, false, false, false, false, false, false, false, false, false, false, false, false, false, false, false, false, false, false, false, false, false, false, false, false, false, false, false, false, false, false, false, false, false, false, false, false, false, false, false, false, false, false, false, false] rfl rfl (by kernel_rfl) (fun _ _ _ h => h) (Or.inl ⟨by rfl, ?_⟩) hHeld ?_ ?_
    rotate_left
    · rintro w' ⟨s0, s1⟩
      refine (exec_load _ _ 27 (.tmp 7) _ _ _ (by rfl) (by rfl) s0).trans ?_
      with_reducible rfl
    rotate_left
    · simp only [Act.put, List.setIfInBounds_toArray, List.set_cons_zero, List.set_cons_succ, i64_w, i32_w]
      rfl
    refine take_ (i := 5) (N := some 29) (v := ?_) (a' := ?_) #[true, true, false, false, true, true, false, false, false, false, false, false, false, false, false, false, false, false, false, false, false, false, false, false, false, false, false, false, false, false, false, false, false, false, false, false, false, false, false, false, false, false, false, false, false, false, false, false, false, false] rfl rfl (by kernel_rfl) (fun _ _ _ h => h) (Or.inl ⟨by rfl, ?_⟩) hHeld ?_ ?_
    rotate_left
    · rintro w' ⟨s0, s1⟩
      refine (exec_load _ _ 27 (.tmp 8) _ _ _ (by rfl) (by rfl) s1).trans ?_
      with_reducible rfl
    rotate_left
    · simp only [Act.put, List.setIfInBounds_toArray, List.set_cons_zero, List.set_cons_succ, i64_w, i32_w]
      rfl
    refine take_ (i := 9) (N := some 33) (v := ?_) (a' := ?_) #[true, true, false, false, true, true, false, false, false, true, false, false, false, false, false, false, false, false, false, false, false, false, false, false, false, false, false, false, false, false, false, false, false, false, false, false, false, false, false, false, false, false, false, false, false, false, false, false, false, false] rfl rfl (by kernel_rfl) (fun _ _ _ h => h) (Or.inl ⟨by rfl, ?_⟩) hHeld ?_ ?_
    rotate_left
    · rintro w' ⟨s0, s1⟩
      refine (exec_load _ _ 27 (.tmp 7) _ _ _ (by rfl) (by rfl) s0).trans ?_
      with_reducible rfl
    rotate_left
    · simp only [Act.put, List.setIfInBounds_toArray, List.set_cons_zero, List.set_cons_succ, i64_w, i32_w]
      rfl
    refine take_ (i := 11) (N := some 35) (v := ?_) (a' := ?_) #[true, true, false, false, true, true, false, false, false, true, false, true, false, false, false, false, false, false, false, false, false, false, false, false, false, false, false, false, false, false, false, false, false, false, false, false, false, false, false, false, false, false, false, false, false, false, false, false, false, false] rfl rfl (by kernel_rfl) (fun _ _ _ h => h) (Or.inl ⟨by rfl, ?_⟩) hHeld ?_ ?_
    rotate_left
    · rintro w' ⟨s0, s1⟩
      refine (exec_load _ _ 27 (.tmp 8) _ _ _ (by rfl) (by rfl) s1).trans ?_
      with_reducible rfl
    rotate_left
    · simp only [Act.put, List.setIfInBounds_toArray, List.set_cons_zero, List.set_cons_succ, i64_w, i32_w]
      rfl
    refine one_ (i := 2) (N := some 26) #[true, true, true, false, true, true, false, false, false, true, false, true, false, false, false, false, false, false, false, false, false, false, false, false, false, false, false, false, false, false, false, false, false, false, false, false, false, false, false, false, false, false, false, false, false, false, false, false, false, false] rfl rfl (by kernel_rfl) (by decide) (fun K hK => ?_)
    refine goes_ Tryd.func24 (by kernel_rfl) rfl #[.agg (cells ma), .agg (cells mb)] (by rfl) rfl rfl (by simp only [List.map_toArray, List.map_cons, List.map_nil]; rfl) ?_
    with_reducible refine (or_any ma mb _).mono ?_
    rintro e_ w7 ⟨rfl, hb_⟩
    refine ⟨_, rfl, ?_⟩
    have B_w7 := Lib.hid (below_step ((below_drew HB.out)) hb_)
    have K_ma_w7 := Lib.hid (blk_below (blk_drew K_ma.out) hb_)
    have K_mb_w7 := Lib.hid (blk_below (blk_drew K_mb.out) hb_)
    clear hb_
    refine hK.out _ _ ⟨load27 K_ma_w7.out, load27 K_mb_w7.out⟩ (fun hHeld => ?_)
    clear hK K
    refine norm_ (a' := ?_) ?_ ?_
    rotate_left
    · show Act.put _ (some 26) _ = _
      simp only [Act.put, List.setIfInBounds_toArray, List.set_cons_zero, List.set_cons_succ, i64_w, i32_w]
      rfl
    refine one_ (i := 3) (N := some 27) #[true, true, true, true, true, true, false, false, false, true, false, true, false, false, false, false, false, false, false, false, false, false, false, false, false, false, false, false, false, false, false, false, false, false, false, false, false, false, false, false, false, false, false, false, false, false, false, false, false, false] rfl rfl (by kernel_rfl) (by decide) (fun K hK => ?_)
    refine goes_ Tryd.func25 (by kernel_rfl) rfl #[.agg (cells (orF ma mb))] (by rfl) rfl rfl (by simp only [List.map_toArray, List.map_cons, List.map_nil]; rfl) ?_
    with_reducible refine (count_is (orF ma mb) nO HnO.out _).mono ?_
    rintro e_ w8 ⟨rfl, hb_⟩
    refine ⟨_, rfl, ?_⟩
    have B_w8 := Lib.hid (below_step (B_w7.out) hb_)
    have K_ma_w8 := Lib.hid (blk_below (K_ma_w7.out) hb_)
    have K_mb_w8 := Lib.hid (blk_below (K_mb_w7.out) hb_)
    clear hb_
    clear B_w7 K_ma_w7 K_mb_w7
    refine hK.out _ _ ⟨load27 K_ma_w8.out, load27 K_mb_w8.out⟩ (fun hHeld => ?_)
    clear hK K
    refine norm_ (a' := ?_) ?_ ?_
    rotate_left
    · show Act.put _ (some 27) _ = _
      simp only [Act.put, List.setIfInBounds_toArray, List.set_cons_zero, List.set_cons_succ, i64_w, i32_w]
      rfl
    refine one_ (i := 6) (N := some 30) #[true, true, true, true, true, true, true, false, false, true, false, true, false, false, false, false, false, false, false, false, false, false, false, false, false, false, false, false, false, false, false, false, false, false, false, false, false, false, false, false, false, false, false, false, false, false, false, false, false, false] rfl rfl (by kernel_rfl) (by decide) (fun K hK => ?_)
    refine goes_ Tryd.func26 (by kernel_rfl) rfl #[.agg (cells ma), .agg (cells mb)] (by rfl) rfl rfl (by simp only [List.map_toArray, List.map_cons, List.map_nil]; rfl) ?_
    with_reducible refine (and_any ma mb _).mono ?_
    rintro e_ w9 ⟨rfl, hb_⟩
    refine ⟨_, rfl, ?_⟩
    have B_w9 := Lib.hid (below_step (B_w8.out) hb_)
    have K_ma_w9 := Lib.hid (blk_below (K_ma_w8.out) hb_)
    have K_mb_w9 := Lib.hid (blk_below (K_mb_w8.out) hb_)
    clear hb_
    clear B_w8 K_ma_w8 K_mb_w8
    refine hK.out _ _ ⟨load27 K_ma_w9.out, load27 K_mb_w9.out⟩ (fun hHeld => ?_)
    clear hK K
    refine norm_ (a' := ?_) ?_ ?_
    rotate_left
    · show Act.put _ (some 30) _ = _
      simp only [Act.put, List.setIfInBounds_toArray, List.set_cons_zero, List.set_cons_succ, i64_w, i32_w]
      rfl
    refine one_ (i := 7) (N := some 31) #[true, true, true, true, true, true, true, true, false, true, false, true, false, false, false, false, false, false, false, false, false, false, false, false, false, false, false, false, false, false, false, false, false, false, false, false, false, false, false, false, false, false, false, false, false, false, false, false, false, false] rfl rfl (by kernel_rfl) (by decide) (fun K hK => ?_)
    refine goes_ Tryd.func25 (by kernel_rfl) rfl #[.agg (cells (andF ma mb))] (by rfl) rfl rfl (by simp only [List.map_toArray, List.map_cons, List.map_nil]; rfl) ?_
    with_reducible refine (count_is (andF ma mb) nX HnX.out _).mono ?_
    rintro e_ w10 ⟨rfl, hb_⟩
    refine ⟨_, rfl, ?_⟩
    have B_w10 := Lib.hid (below_step (B_w9.out) hb_)
    have K_ma_w10 := Lib.hid (blk_below (K_ma_w9.out) hb_)
    have K_mb_w10 := Lib.hid (blk_below (K_mb_w9.out) hb_)
    clear hb_
    clear B_w9 K_ma_w9 K_mb_w9
    refine hK.out _ _ ⟨load27 K_ma_w10.out, load27 K_mb_w10.out⟩ (fun hHeld => ?_)
    clear hK K
    refine norm_ (a' := ?_) ?_ ?_
    rotate_left
    · show Act.put _ (some 31) _ = _
      simp only [Act.put, List.setIfInBounds_toArray, List.set_cons_zero, List.set_cons_succ, i64_w, i32_w]
      rfl
    refine pure_ (i := 8) (N := some 32) (v := ?_) (a' := ?_) #[true, true, true, true, true, true, true, true, true, true, false, true, false, false, false, false, false, false, false, false, false, false, false, false, false, false, false, false, false, false, false, false, false, false, false, false, false, false, false, false, false, false, false, false, false, false, false, false, false, false] rfl rfl (by kernel_rfl) (fun _ _ _ h => h) (Or.inl ⟨by rfl, ?_⟩) ?_ ?_
    rotate_left
    · intro w'
      go_simp
      with_reducible rfl
    rotate_left
    · simp only [Act.put, List.setIfInBounds_toArray, List.set_cons_zero, List.set_cons_succ, i64_w, i32_w]
      rfl
    refine one_ (i := 10) (N := some 34) #[true, true, true, true, true, true, true, true, true, true, true, true, false, false, false, false, false, false, false, false, false, false, false, false, false, false, false, false, false, false, false, false, false, false, false, false, false, false, false, false, false, false, false, false, false, false, false, false, false, false] rfl rfl (by kernel_rfl) (by decide) (fun K hK => ?_)
    refine goes_ Tryd.func25 (by kernel_rfl) rfl #[.agg (cells ma)] (by rfl) rfl rfl (by simp only [List.map_toArray, List.map_cons, List.map_nil]; rfl) ?_
    with_reducible refine (count_is ma na Hna.out _).mono ?_
    rintro e_ w11 ⟨rfl, hb_⟩
    refine ⟨_, rfl, ?_⟩
    have B_w11 := Lib.hid (below_step (B_w10.out) hb_)
    have K_ma_w11 := Lib.hid (blk_below (K_ma_w10.out) hb_)
    have K_mb_w11 := Lib.hid (blk_below (K_mb_w10.out) hb_)
    clear hb_
    clear B_w10 K_ma_w10 K_mb_w10
    refine hK.out _ _ ⟨load27 K_ma_w11.out, load27 K_mb_w11.out⟩ (fun hHeld => ?_)
    clear hK K
    refine norm_ (a' := ?_) ?_ ?_
    rotate_left
    · show Act.put _ (some 34) _ = _
      simp only [Act.put, List.setIfInBounds_toArray, List.set_cons_zero, List.set_cons_succ, i64_w, i32_w]
      rfl
    refine one_ (i := 12) (N := some 36) #[true, true, true, true, true, true, true, true, true, true, true, true, true, false, false, false, false, false, false, false, false, false, false, false, false, false, false, false, false, false, false, false, false, false, false, false, false, false, false, false, false, false, false, false, false, false, false, false, false, false] rfl rfl (by kernel_rfl) (by decide) (fun K hK => ?_)
    refine goes_ Tryd.func25 (by kernel_rfl) rfl #[.agg (cells mb)] (by rfl) rfl rfl (by simp only [List.map_toArray, List.map_cons, List.map_nil]; rfl) ?_
    with_reducible refine (count_is mb nb Hnb.out _).mono ?_
    rintro e_ w12 ⟨rfl, hb_⟩
    refine ⟨_, rfl, ?_⟩
    have B_w12 := Lib.hid (below_step (B_w11.out) hb_)
    have K_ma_w12 := Lib.hid (blk_below (K_ma_w11.out) hb_)
    have K_mb_w12 := Lib.hid (blk_below (K_mb_w11.out) hb_)
    clear hb_
    clear B_w11 K_ma_w11 K_mb_w11
    refine hK.out _ _ ⟨load27 K_ma_w12.out, load27 K_mb_w12.out⟩ (fun hHeld => ?_)
    clear hK K
    refine norm_ (a' := ?_) ?_ ?_
    rotate_left
    · show Act.put _ (some 36) _ = _
      simp only [Act.put, List.setIfInBounds_toArray, List.set_cons_zero, List.set_cons_succ, i64_w, i32_w]
      rfl
    refine pure_ (i := 13) (N := some 37) (v := ?_) (a' := ?_) #[true, true, true, true, true, true, true, true, true, true, true, true, true, true, false, false, false, false, false, false, false, false, false, false, false, false, false, false, false, false, false, false, false, false, false, false, false, false, false, false, false, false, false, false, false, false, false, false, false, false] rfl rfl (by kernel_rfl) (fun _ _ _ h => h) (Or.inl ⟨by rfl, ?_⟩) ?_ ?_
    rotate_left
    · intro w'
      go_simp
      with_reducible rfl
    rotate_left
    · simp only [Act.put, List.setIfInBounds_toArray, List.set_cons_zero, List.set_cons_succ, i64_w, i32_w]
      rfl
    refine pure_ (i := 14) (N := some 38) (v := ?_) (a' := ?_) #[true, true, true, true, true, true, true, true, true, true, true, true, true, true, true, false, false, false, false, false, false, false, false, false, false, false, false, false, false, false, false, false, false, false, false, false, false, false, false, false, false, false, false, false, false, false, false, false, false, false] rfl rfl (by kernel_rfl) (fun _ _ _ h => h) (Or.inl ⟨by rfl, ?_⟩) ?_ ?_
    rotate_left
    · intro w'
      go_simp
      with_reducible rfl
    rotate_left
    · simp only [Act.put, List.setIfInBounds_toArray, List.set_cons_zero, List.set_cons_succ, i64_w, i32_w]
      rfl
    refine pure_ (i := 15) (N := some 39) (v := ?_) (a' := ?_) #[true, true, true, true, true, true, true, true, true, true, true, true, true, true, true, true, false, false, false, false, false, false, false, false, false, false, false, false, false, false, false, false, false, false, false, false, false, false, false, false, false, false, false, false, false, false, false, false, false, false] rfl rfl (by kernel_rfl) (fun _ _ _ h => h) (Or.inl ⟨by rfl, ?_⟩) ?_ ?_
    rotate_left
    · intro w'
      go_simp
      with_reducible rfl
    rotate_left
    · simp only [Act.put, List.setIfInBounds_toArray, List.set_cons_zero, List.set_cons_succ, i64_w, i32_w]
      rfl
    refine take_ (i := 16) (N := some 40) (v := ?_) (a' := ?_) #[true, true, true, true, true, true, true, true, true, true, true, true, true, true, true, true, true, false, false, false, false, false, false, false, false, false, false, false, false, false, false, false, false, false, false, false, false, false, false, false, false, false, false, false, false, false, false, false, false, false] rfl rfl (by kernel_rfl) (fun _ _ _ h => h) (Or.inl ⟨by rfl, ?_⟩) hHeld ?_ ?_
    rotate_left
    · rintro w' ⟨s0, s1⟩
      refine (exec_load _ _ 27 (.tmp 7) _ _ _ (by rfl) (by rfl) s0).trans ?_
      with_reducible rfl
    rotate_left
    · simp only [Act.put, List.setIfInBounds_toArray, List.set_cons_zero, List.set_cons_succ, i64_w, i32_w]
      rfl
    refine take_ (i := 17) (N := some 41) (v := ?_) (a' := ?_) #[true, true, true, true, true, true, true, true, true, true, true, true, true, true, true, true, true, true, false, false, false, false, false, false, false, false, false, false, false, false, false, false, false, false, false, false, false, false, false, false, false, false, false, false, false, false, false, false, false, false] rfl rfl (by kernel_rfl) (fun _ _ _ h => h) (Or.inl ⟨by rfl, ?_⟩) hHeld ?_ ?_
    rotate_left
    · rintro w' ⟨s0, s1⟩
      refine (exec_load _ _ 27 (.tmp 8) _ _ _ (by rfl) (by rfl) s1).trans ?_
      with_reducible rfl
    rotate_left
    · simp only [Act.put, List.setIfInBounds_toArray, List.set_cons_zero, List.set_cons_succ, i64_w, i32_w]
      rfl
    refine take_ (i := 20) (N := some 44) (v := ?_) (a' := ?_) #[true, true, true, true, true, true, true, true, true, true, true, true, true, true, true, true, true, true, false, false, true, false, false, false, false, false, false, false, false, false, false, false, false, false, false, false, false, false, false, false, false, false, false, false, false, false, false, false, false, false] rfl rfl (by kernel_rfl) (fun _ _ _ h => h) (Or.inl ⟨by rfl, ?_⟩) hHeld ?_ ?_
    rotate_left
    · rintro w' ⟨s0, s1⟩
      refine (exec_load _ _ 27 (.tmp 7) _ _ _ (by rfl) (by rfl) s0).trans ?_
      with_reducible rfl
    rotate_left
    · simp only [Act.put, List.setIfInBounds_toArray, List.set_cons_zero, List.set_cons_succ, i64_w, i32_w]
      rfl
    refine take_ (i := 22) (N := some 46) (v := ?_) (a' := ?_) #[true, true, true, true, true, true, true, true, true, true, true, true, true, true, true, true, true, true, false, false, true, false, true, false, false, false, false, false, false, false, false, false, false, false, false, false, false, false, false, false, false, false, false, false, false, false, false, false, false, false] rfl rfl (by kernel_rfl) (fun _ _ _ h => h) (Or.inl ⟨by rfl, ?_⟩) hHeld ?_ ?_
    rotate_left
    · rintro w' ⟨s0, s1⟩
      refine (exec_load _ _ 27 (.tmp 7) _ _ _ (by rfl) (by rfl) s0).trans ?_
      with_reducible rfl
    rotate_left
    · simp only [Act.put, List.setIfInBounds_toArray, List.set_cons_zero, List.set_cons_succ, i64_w, i32_w]
      rfl
    refine take_ (i := 23) (N := some 47) (v := ?_) (a' := ?_) #[true, true, true, true, true, true, true, true, true, true, true, true, true, true, true, true, true, true, false, false, true, false, true, true, false, false, false, false, false, false, false, false, false, false, false, false, false, false, false, false, false, false, false, false, false, false, false, false, false, false] rfl rfl (by kernel_rfl) (fun _ _ _ h => h) (Or.inl ⟨by rfl, ?_⟩) hHeld ?_ ?_
    rotate_left
    · rintro w' ⟨s0, s1⟩
      refine (exec_load _ _ 27 (.tmp 8) _ _ _ (by rfl) (by rfl) s1).trans ?_
      with_reducible rfl
    rotate_left
    · simp only [Act.put, List.setIfInBounds_toArray, List.set_cons_zero, List.set_cons_succ, i64_w, i32_w]
      rfl
    refine one_ (i := 18) (N := some 42) #[true, true, true, true, true, true, true, true, true, true, true, true, true, true, true, true, true, true, true, false, true, false, true, true, false, false, false, false, false, false, false, false, false, false, false, false, false, false, false, false, false, false, false, false, false, false, false, false, false, false] rfl rfl (by kernel_rfl) (by decide) (fun K hK => ?_)
    refine goes_ Tryd.func27 (by kernel_rfl) rfl #[.agg (cells ma), .agg (cells mb)] (by rfl) rfl rfl (by simp only [List.map_toArray, List.map_cons, List.map_nil]; rfl) ?_
    with_reducible refine (minus_any ma mb _).mono ?_
    rintro e_ w13 ⟨rfl, hb_⟩
    refine ⟨_, rfl, ?_⟩
    have B_w13 := Lib.hid (below_step (B_w12.out) hb_)
    have K_ma_w13 := Lib.hid (blk_below (K_ma_w12.out) hb_)
    have K_mb_w13 := Lib.hid (blk_below (K_mb_w12.out) hb_)
    clear hb_
    clear B_w12 K_ma_w12 K_mb_w12
    refine hK.out _ _ ⟨load27 K_ma_w13.out, load27 K_mb_w13.out⟩ (fun hHeld => ?_)
    clear hK K
    refine norm_ (a' := ?_) ?_ ?_
    rotate_left
    · show Act.put _ (some 42) _ = _
      simp only [Act.put, List.setIfInBounds_toArray, List.set_cons_zero, List.set_cons_succ, i64_w, i32_w]
      rfl
    refine one_ (i := 19) (N := some 43) #[true, true, true, true, true, true, true, true, true, true, true, true, true, true, true, true, true, true, true, true, true, false, true, true, false, false, false, false, false, false, false, false, false, false, false, false, false, false, false, false, false, false, false, false, false, false, false, false, false, false] rfl rfl (by kernel_rfl) (by decide) (fun K hK => ?_)
    refine goes_ Tryd.func25 (by kernel_rfl) rfl #[.agg (cells (minF ma mb))] (by rfl) rfl rfl (by simp only [List.map_toArray, List.map_cons, List.map_nil]; rfl) ?_
    with_reducible refine (count_is (minF ma mb) nM HnM.out _).mono ?_
    rintro e_ w14 ⟨rfl, hb_⟩
    refine ⟨_, rfl, ?_⟩
    have B_w14 := Lib.hid (below_step (B_w13.out) hb_)
    have K_ma_w14 := Lib.hid (blk_below (K_ma_w13.out) hb_)
    have K_mb_w14 := Lib.hid (blk_below (K_mb_w13.out) hb_)
    clear hb_
    clear B_w13 K_ma_w13 K_mb_w13
    refine hK.out _ _ ⟨load27 K_ma_w14.out, load27 K_mb_w14.out⟩ (fun hHeld => ?_)
    clear hK K
    refine norm_ (a' := ?_) ?_ ?_
    rotate_left
    · show Act.put _ (some 43) _ = _
      simp only [Act.put, List.setIfInBounds_toArray, List.set_cons_zero, List.set_cons_succ, i64_w, i32_w]
      rfl
    refine one_ (i := 21) (N := some 45) #[true, true, true, true, true, true, true, true, true, true, true, true, true, true, true, true, true, true, true, true, true, true, true, true, false, false, false, false, false, false, false, false, false, false, false, false, false, false, false, false, false, false, false, false, false, false, false, false, false, false] rfl rfl (by kernel_rfl) (by decide) (fun K hK => ?_)
    refine goes_ Tryd.func25 (by kernel_rfl) rfl #[.agg (cells ma)] (by rfl) rfl rfl (by simp only [List.map_toArray, List.map_cons, List.map_nil]; rfl) ?_
    with_reducible refine (count_is ma na Hna.out _).mono ?_
    rintro e_ w15 ⟨rfl, hb_⟩
    refine ⟨_, rfl, ?_⟩
    have B_w15 := Lib.hid (below_step (B_w14.out) hb_)
    have K_ma_w15 := Lib.hid (blk_below (K_ma_w14.out) hb_)
    have K_mb_w15 := Lib.hid (blk_below (K_mb_w14.out) hb_)
    clear hb_
    clear B_w14 K_ma_w14 K_mb_w14
    refine hK.out _ _ ⟨load27 K_ma_w15.out, load27 K_mb_w15.out⟩ (fun hHeld => ?_)
    clear hK K
    refine norm_ (a' := ?_) ?_ ?_
    rotate_left
    · show Act.put _ (some 45) _ = _
      simp only [Act.put, List.setIfInBounds_toArray, List.set_cons_zero, List.set_cons_succ, i64_w, i32_w]
      rfl
    refine one_ (i := 24) (N := some 48) #[true, true, true, true, true, true, true, true, true, true, true, true, true, true, true, true, true, true, true, true, true, true, true, true, true, false, false, false, false, false, false, false, false, false, false, false, false, false, false, false, false, false, false, false, false, false, false, false, false, false] rfl rfl (by kernel_rfl) (by decide) (fun K hK => ?_)
    refine goes_ Tryd.func26 (by kernel_rfl) rfl #[.agg (cells ma), .agg (cells mb)] (by rfl) rfl rfl (by simp only [List.map_toArray, List.map_cons, List.map_nil]; rfl) ?_
    with_reducible refine (and_any ma mb _).mono ?_
    rintro e_ w16 ⟨rfl, hb_⟩
    refine ⟨_, rfl, ?_⟩
    have B_w16 := Lib.hid (below_step (B_w15.out) hb_)
    have K_ma_w16 := Lib.hid (blk_below (K_ma_w15.out) hb_)
    have K_mb_w16 := Lib.hid (blk_below (K_mb_w15.out) hb_)
    clear hb_
    clear B_w15 K_ma_w15 K_mb_w15
    refine hK.out _ _ ⟨load27 K_ma_w16.out, load27 K_mb_w16.out⟩ (fun hHeld => ?_)
    clear hK K
    refine norm_ (a' := ?_) ?_ ?_
    rotate_left
    · show Act.put _ (some 48) _ = _
      simp only [Act.put, List.setIfInBounds_toArray, List.set_cons_zero, List.set_cons_succ, i64_w, i32_w]
      rfl
    refine one_ (i := 25) (N := some 49) #[true, true, true, true, true, true, true, true, true, true, true, true, true, true, true, true, true, true, true, true, true, true, true, true, true, true, false, false, false, false, false, false, false, false, false, false, false, false, false, false, false, false, false, false, false, false, false, false, false, false] rfl rfl (by kernel_rfl) (by decide) (fun K hK => ?_)
    refine goes_ Tryd.func25 (by kernel_rfl) rfl #[.agg (cells (andF ma mb))] (by rfl) rfl rfl (by simp only [List.map_toArray, List.map_cons, List.map_nil]; rfl) ?_
    with_reducible refine (count_is (andF ma mb) nX HnX.out _).mono ?_
    rintro e_ w17 ⟨rfl, hb_⟩
    refine ⟨_, rfl, ?_⟩
    have B_w17 := Lib.hid (below_step (B_w16.out) hb_)
    have K_ma_w17 := Lib.hid (blk_below (K_ma_w16.out) hb_)
    have K_mb_w17 := Lib.hid (blk_below (K_mb_w16.out) hb_)
    clear hb_
    clear B_w16 K_ma_w16 K_mb_w16
    refine hK.out _ _ ⟨load27 K_ma_w17.out, load27 K_mb_w17.out⟩ (fun hHeld => ?_)
    clear hK K
    refine norm_ (a' := ?_) ?_ ?_
    rotate_left
    · show Act.put _ (some 49) _ = _
      simp only [Act.put, List.setIfInBounds_toArray, List.set_cons_zero, List.set_cons_succ, i64_w, i32_w]
      rfl
    refine pure_ (i := 26) (N := some 50) (v := ?_) (a' := ?_) #[true, true, true, true, true, true, true, true, true, true, true, true, true, true, true, true, true, true, true, true, true, true, true, true, true, true, true, false, false, false, false, false, false, false, false, false, false, false, false, false, false, false, false, false, false, false, false, false, false, false] rfl rfl (by kernel_rfl) (fun _ _ _ h => h) (Or.inl ⟨by rfl, ?_⟩) ?_ ?_
    rotate_left
    · intro w'
      go_simp
      with_reducible rfl
    rotate_left
    · simp only [Act.put, List.setIfInBounds_toArray, List.set_cons_zero, List.set_cons_succ, i64_w, i32_w]
      rfl
    refine pure_ (i := 27) (N := some 51) (v := ?_) (a' := ?_) #[true, true, true, true, true, true, true, true, true, true, true, true, true, true, true, true, true, true, true, true, true, true, true, true, true, true, true, true, false, false, false, false, false, false, false, false, false, false, false, false, false, false, false, false, false, false, false, false, false, false] rfl rfl (by kernel_rfl) (fun _ _ _ h => h) (Or.inl ⟨by rfl, ?_⟩) ?_ ?_
    rotate_left
    · intro w'
      go_simp
      with_reducible rfl
    rotate_left
    · simp only [Act.put, List.setIfInBounds_toArray, List.set_cons_zero, List.set_cons_succ, i64_w, i32_w]
      rfl
    refine pure_ (i := 28) (N := some 52) (v := ?_) (a' := ?_) #[true, true, true, true, true, true, true, true, true, true, true, true, true, true, true, true, true, true, true, true, true, true, true, true, true, true, true, true, true, false, false, false, false, false, false, false, false, false, false, false, false, false, false, false, false, false, false, false, false, false] rfl rfl (by kernel_rfl) (fun _ _ _ h => h) (Or.inl ⟨by rfl, ?_⟩) ?_ ?_
    rotate_left
    · intro w'
      go_simp
      with_reducible rfl
    rotate_left
    · simp only [Act.put, List.setIfInBounds_toArray, List.set_cons_zero, List.set_cons_succ, i64_w, i32_w]
      rfl
    refine pure_ (i := 29) (N := some 53) (v := ?_) (a' := ?_) #[true, true, true, true, true, true, true, true, true, true, true, true, true, true, true, true, true, true, true, true, true, true, true, true, true, true, true, true, true, true, false, false, false, false, false, false, false, false, false, false, false, false, false, false, false, false, false, false, false, false] rfl rfl (by kernel_rfl) (fun _ _ _ h => h) (Or.inl ⟨by rfl, ?_⟩) ?_ ?_
    rotate_left
    · intro w'
      go_simp
      with_reducible rfl
    rotate_left
    · simp only [Act.put, List.setIfInBounds_toArray, List.set_cons_zero, List.set_cons_succ, i64_w, i32_w]
      rfl
    refine take_ (i := 30) (N := some 54) (v := ?_) (a' := ?_) #[true, true, true, true, true, true, true, true, true, true, true, true, true, true, true, true, true, true, true, true, true, true, true, true, true, true, true, true, true, true, true, false, false, false, false, false, false, false, false, false, false, false, false, false, false, false, false, false, false, false] rfl rfl (by kernel_rfl) (fun _ _ _ h => h) (Or.inl ⟨by rfl, ?_⟩) hHeld ?_ ?_
    rotate_left
    · rintro w' ⟨s0, s1⟩
      refine (exec_load _ _ 27 (.tmp 7) _ _ _ (by rfl) (by rfl) s0).trans ?_
      with_reducible rfl
    rotate_left
    · simp only [Act.put, List.setIfInBounds_toArray, List.set_cons_zero, List.set_cons_succ, i64_w, i32_w]
      rfl
    refine take_ (i := 33) (N := some 57) (v := ?_) (a' := ?_) #[true, true, true, true, true, true, true, true, true, true, true, true, true, true, true, true, true, true, true, true, true, true, true, true, true, true, true, true, true, true, true, false, false, true, false, false, false, false, false, false, false, false, false, false, false, false, false, false, false, false] rfl rfl (by kernel_rfl) (fun _ _ _ h => h) (Or.inl ⟨by rfl, ?_⟩) hHeld ?_ ?_
    rotate_left
    · rintro w' ⟨s0, s1⟩
      refine (exec_load _ _ 27 (.tmp 7) _ _ _ (by rfl) (by rfl) s0).trans ?_
      with_reducible rfl
    rotate_left
    · simp only [Act.put, List.setIfInBounds_toArray, List.set_cons_zero, List.set_cons_succ, i64_w, i32_w]
      rfl
    refine one_ (i := 31) (N := some 55) #[true, true, true, true, true, true, true, true, true, true, true, true, true, true, true, true, true, true, true, true, true, true, true, true, true, true, true, true, true, true, true, true, false, true, false, false, false, false, false, false, false, false, false, false, false, false, false, false, false, false] rfl rfl (by kernel_rfl) (by decide) (fun K hK => ?_)
    refine goes_ Tryd.func25 (by kernel_rfl) rfl #[.agg (cells ma)] (by rfl) rfl rfl (by simp only [List.map_toArray, List.map_cons, List.map_nil]; rfl) ?_
    with_reducible refine (count_is ma na Hna.out _).mono ?_
    rintro e_ w18 ⟨rfl, hb_⟩
    refine ⟨_, rfl, ?_⟩
    have B_w18 := Lib.hid (below_step (B_w17.out) hb_)
    have K_ma_w18 := Lib.hid (blk_below (K_ma_w17.out) hb_)
    have K_mb_w18 := Lib.hid (blk_below (K_mb_w17.out) hb_)
    clear hb_
    clear B_w17 K_ma_w17 K_mb_w17
    refine hK.out _ _ ⟨load27 K_ma_w18.out, load27 K_mb_w18.out⟩ (fun hHeld => ?_)
    clear hK K
    refine norm_ (a' := ?_) ?_ ?_
    rotate_left
    · show Act.put _ (some 55) _ = _
      simp only [Act.put, List.setIfInBounds_toArray, List.set_cons_zero, List.set_cons_succ, i64_w, i32_w]
      rfl
    refine pure_ (i := 32) (N := some 56) (v := ?_) (a' := ?_) #[true, true, true, true, true, true, true, true, true, true, true, true, true, true, true, true, true, true, true, true, true, true, true, true, true, true, true, true, true, true, true, true, true, true, false, false, false, false, false, false, false, false, false, false, false, false, false, false, false, false] rfl rfl (by kernel_rfl) (fun _ _ _ h => h) (Or.inl ⟨by rfl, ?_⟩) ?_ ?_
    rotate_left
    · intro w'
      go_simp
      with_reducible rfl
    rotate_left
    · simp only [Act.put, List.setIfInBounds_toArray, List.set_cons_zero, List.set_cons_succ, i64_w, i32_w]
      rfl
    refine one_ (i := 34) (N := some 58) #[true, true, true, true, true, true, true, true, true, true, true, true, true, true, true, true, true, true, true, true, true, true, true, true, true, true, true, true, true, true, true, true, true, true, true, false, false, false, false, false, false, false, false, false, false, false, false, false, false, false] rfl rfl (by kernel_rfl) (by decide) (fun K hK => ?_)
    refine goes_ Tryd.func19 (by kernel_rfl) rfl #[.agg (cells ma), .int .i64 0] (by rfl) rfl rfl (by simp only [List.map_toArray, List.map_cons, List.map_nil]; rfl) ?_
    with_reducible refine (next_is ma 0 x0 Hx0.out _ (by decide) (HT.out.below (B_w18.out) HT.out.three)).mono ?_
    rintro e_ w19 ⟨rfl, hb_⟩
    refine ⟨_, rfl, ?_⟩
    have B_w19 := Lib.hid (below_step (B_w18.out) hb_)
    have K_ma_w19 := Lib.hid (blk_below (K_ma_w18.out) hb_)
    have K_mb_w19 := Lib.hid (blk_below (K_mb_w18.out) hb_)
    clear hb_
    clear B_w18 K_ma_w18 K_mb_w18
    refine hK.out _ _ ⟨load27 K_ma_w19.out, load27 K_mb_w19.out⟩ (fun hHeld => ?_)
    clear hK K
    refine norm_ (a' := ?_) ?_ ?_
    rotate_left
    · show Act.put _ (some 58) _ = _
      simp only [Act.put, List.setIfInBounds_toArray, List.set_cons_zero, List.set_cons_succ, i64_w, i32_w]
      rfl
    refine pure_ (i := 35) (N := some 59) (v := ?_) (a' := ?_) #[true, true, true, true, true, true, true, true, true, true, true, true, true, true, true, true, true, true, true, true, true, true, true, true, true, true, true, true, true, true, true, true, true, true, true, true, false, false, false, false, false, false, false, false, false, false, false, false, false, false] rfl rfl (by kernel_rfl) (fun _ _ _ h => h) (Or.inl ⟨by rfl, ?_⟩) ?_ ?_
    rotate_left
    · intro w'
      go_simp
      with_reducible rfl
    rotate_left
    · simp only [Act.put, List.setIfInBounds_toArray, List.set_cons_zero, List.set_cons_succ, i64_w, i32_w]
      rfl
    refine pure_ (i := 36) (N := some 60) (v := ?_) (a' := ?_) #[true, true, true, true, true, true, true, true, true, true, true, true, true, true, true, true, true, true, true, true, true, true, true, true, true, true, true, true, true, true, true, true, true, true, true, true, true, false, false, false, false, false, false, false, false, false, false, false, false, false] rfl rfl (by kernel_rfl) (fun _ _ _ h => h) (Or.inl ⟨by rfl, ?_⟩) ?_ ?_
    rotate_left
    · intro w'
      go_simp
      with_reducible rfl
    rotate_left
    · simp only [Act.put, List.setIfInBounds_toArray, List.set_cons_zero, List.set_cons_succ, i64_w, i32_w]
      rfl
    refine pure_ (i := 37) (N := some 61) (v := ?_) (a' := ?_) #[true, true, true, true, true, true, true, true, true, true, true, true, true, true, true, true, true, true, true, true, true, true, true, true, true, true, true, true, true, true, true, true, true, true, true, true, true, true, false, false, false, false, false, false, false, false, false, false, false, false] rfl rfl (by kernel_rfl) (fun _ _ _ h => h) (Or.inl ⟨by rfl, ?_⟩) ?_ ?_
    rotate_left
    · intro w'
      go_simp
      with_reducible rfl
    rotate_left
    · simp only [Act.put, List.setIfInBounds_toArray, List.set_cons_zero, List.set_cons_succ, i64_w, i32_w]
      rfl
    refine pure_ (i := 38) (N := some 62) (v := ?_) (a' := ?_) #[true, true, true, true, true, true, true, true, true, true, true, true, true, true, true, true, true, true, true, true, true, true, true, true, true, true, true, true, true, true, true, true, true, true, true, true, true, true, true, false, false, false, false, false, false, false, false, false, false, false] rfl rfl (by kernel_rfl) (fun _ _ _ h => h) (Or.inl ⟨by rfl, ?_⟩) ?_ ?_
    rotate_left
    · intro w'
      go_simp
      with_reducible rfl
    rotate_left
    · simp only [Act.put, List.setIfInBounds_toArray, List.set_cons_zero, List.set_cons_succ, i64_w, i32_w]
      rfl
    refine take_ (i := 39) (N := some 63) (v := ?_) (a' := ?_) #[true, true, true, true, true, true, true, true, true, true, true, true, true, true, true, true, true, true, true, true, true, true, true, true, true, true, true, true, true, true, true, true, true, true, true, true, true, true, true, true, false, false, false, false, false, false, false, false, false, false] rfl rfl (by kernel_rfl) (fun _ _ _ h => h) (Or.inl ⟨by rfl, ?_⟩) hHeld ?_ ?_
    rotate_left
    · rintro w' ⟨s0, s1⟩
      refine (exec_load _ _ 27 (.tmp 7) _ _ _ (by rfl) (by rfl) s0).trans ?_
      with_reducible rfl
    rotate_left
    · simp only [Act.put, List.setIfInBounds_toArray, List.set_cons_zero, List.set_cons_succ, i64_w, i32_w]
      rfl
    refine take_ (i := 40) (N := some 64) (v := ?_) (a' := ?_) #[true, true, true, true, true, true, true, true, true, true, true, true, true, true, true, true, true, true, true, true, true, true, true, true, true, true, true, true, true, true, true, true, true, true, true, true, true, true, true, true, true, false, false, false, false, false, false, false, false, false] rfl rfl (by kernel_rfl) (fun _ _ _ h => h) (Or.inl ⟨by rfl, ?_⟩) hHeld ?_ ?_
    rotate_left
    · rintro w' ⟨s0, s1⟩
      refine (exec_load _ _ 27 (.tmp 8) _ _ _ (by rfl) (by rfl) s1).trans ?_
      with_reducible rfl
    rotate_left
    · simp only [Act.put, List.setIfInBounds_toArray, List.set_cons_zero, List.set_cons_succ, i64_w, i32_w]
      rfl
    refine take_ (i := 42) (N := some 66) (v := ?_) (a' := ?_) #[true, true, true, true, true, true, true, true, true, true, true, true, true, true, true, true, true, true, true, true, true, true, true, true, true, true, true, true, true, true, true, true, true, true, true, true, true, true, true, true, true, false, true, false, false, false, false, false, false, false] rfl rfl (by kernel_rfl) (fun _ _ _ h => h) (Or.inl ⟨by rfl, ?_⟩) hHeld ?_ ?_
    rotate_left
    · rintro w' ⟨s0, s1⟩
      refine (exec_load _ _ 27 (.tmp 7) _ _ _ (by rfl) (by rfl) s0).trans ?_
      with_reducible rfl
    rotate_left
    · simp only [Act.put, List.setIfInBounds_toArray, List.set_cons_zero, List.set_cons_succ, i64_w, i32_w]
      rfl
    refine take_ (i := 44) (N := some 68) (v := ?_) (a' := ?_) #[true, true, true, true, true, true, true, true, true, true, true, true, true, true, true, true, true, true, true, true, true, true, true, true, true, true, true, true, true, true, true, true, true, true, true, true, true, true, true, true, true, false, true, false, true, false, false, false, false, false] rfl rfl (by kernel_rfl) (fun _ _ _ h => h) (Or.inl ⟨by rfl, ?_⟩) hHeld ?_ ?_
    rotate_left
    · rintro w' ⟨s0, s1⟩
      refine (exec_load _ _ 27 (.tmp 8) _ _ _ (by rfl) (by rfl) s1).trans ?_
      with_reducible rfl
    rotate_left
    · simp only [Act.put, List.setIfInBounds_toArray, List.set_cons_zero, List.set_cons_succ, i64_w, i32_w]
      rfl
    refine one_ (i := 41) (N := some 65) #[true, true, true, true, true, true, true, true, true, true, true, true, true, true, true, true, true, true, true, true, true, true, true, true, true, true, true, true, true, true, true, true, true, true, true, true, true, true, true, true, true, true, true, false, true, false, false, false, false, false] rfl rfl (by kernel_rfl) (by decide) (fun K hK => ?_)
    refine goes_ Tryd.func28 (by kernel_rfl) rfl #[.agg (cells ma), .agg (cells mb)] (by rfl) rfl rfl (by simp only [List.map_toArray, List.map_cons, List.map_nil]; rfl) ?_
    with_reducible refine (same_is ma mb bs Hbs.out _).mono ?_
    rintro e_ w20 ⟨rfl, hb_⟩
    refine ⟨_, rfl, ?_⟩
    have B_w20 := Lib.hid (below_step (B_w19.out) hb_)
    have K_ma_w20 := Lib.hid (blk_below (K_ma_w19.out) hb_)
    have K_mb_w20 := Lib.hid (blk_below (K_mb_w19.out) hb_)
    clear hb_
    clear B_w19 K_ma_w19 K_mb_w19
    refine hK.out _ _ ⟨load27 K_ma_w20.out, load27 K_mb_w20.out⟩ (fun hHeld => ?_)
    clear hK K
    refine norm_ (a' := ?_) ?_ ?_
    rotate_left
    · show Act.put _ (some 65) _ = _
      simp only [Act.put, List.setIfInBounds_toArray, List.set_cons_zero, List.set_cons_succ, i64_w, i32_w]
      rfl
    refine one_ (i := 43) (N := some 67) #[true, true, true, true, true, true, true, true, true, true, true, true, true, true, true, true, true, true, true, true, true, true, true, true, true, true, true, true, true, true, true, true, true, true, true, true, true, true, true, true, true, true, true, true, true, false, false, false, false, false] rfl rfl (by kernel_rfl) (by decide) (fun K hK => ?_)
    refine goes_ Tryd.func21 (by kernel_rfl) rfl #[.agg (cells ma)] (by rfl) rfl rfl (by simp only [List.map_toArray, List.map_cons, List.map_nil]; rfl) ?_
    with_reducible refine (text_is ma tma Htma.out _ (HT.out.below (B_w20.out) HT.out.three)).mono ?_
    rintro e_ w21 ⟨rfl, hb_⟩
    refine ⟨_, rfl, ?_⟩
    have B_w21 := Lib.hid (below_step (B_w20.out) hb_)
    have K_ma_w21 := Lib.hid (blk_below (K_ma_w20.out) hb_)
    have K_mb_w21 := Lib.hid (blk_below (K_mb_w20.out) hb_)
    clear hb_
    clear B_w20 K_ma_w20 K_mb_w20
    refine hK.out _ _ ⟨load27 K_ma_w21.out, load27 K_mb_w21.out⟩ (fun hHeld => ?_)
    clear hK K
    refine norm_ (a' := ?_) ?_ ?_
    rotate_left
    · show Act.put _ (some 67) _ = _
      simp only [Act.put, List.setIfInBounds_toArray, List.set_cons_zero, List.set_cons_succ, i64_w, i32_w]
      rfl
    refine one_ (i := 45) (N := some 69) #[true, true, true, true, true, true, true, true, true, true, true, true, true, true, true, true, true, true, true, true, true, true, true, true, true, true, true, true, true, true, true, true, true, true, true, true, true, true, true, true, true, true, true, true, true, true, false, false, false, false] rfl rfl (by kernel_rfl) (by decide) (fun K hK => ?_)
    refine goes_ Tryd.func21 (by kernel_rfl) rfl #[.agg (cells mb)] (by rfl) rfl rfl (by simp only [List.map_toArray, List.map_cons, List.map_nil]; rfl) ?_
    with_reducible refine (text_is mb tmb Htmb.out _ (HT.out.below (B_w21.out) HT.out.three)).mono ?_
    rintro e_ w22 ⟨rfl, hb_⟩
    refine ⟨_, rfl, ?_⟩
    have B_w22 := Lib.hid (below_step (B_w21.out) hb_)
    have K_ma_w22 := Lib.hid (blk_below (K_ma_w21.out) hb_)
    have K_mb_w22 := Lib.hid (blk_below (K_mb_w21.out) hb_)
    clear hb_
    clear B_w21 K_ma_w21 K_mb_w21
    refine hK.out _ _ ⟨load27 K_ma_w22.out, load27 K_mb_w22.out⟩ (fun hHeld => ?_)
    clear hK K
    refine norm_ (a' := ?_) ?_ ?_
    rotate_left
    · show Act.put _ (some 69) _ = _
      simp only [Act.put, List.setIfInBounds_toArray, List.set_cons_zero, List.set_cons_succ, i64_w, i32_w]
      rfl
    refine pure_ (i := 46) (N := some 70) (v := ?_) (a' := ?_) #[true, true, true, true, true, true, true, true, true, true, true, true, true, true, true, true, true, true, true, true, true, true, true, true, true, true, true, true, true, true, true, true, true, true, true, true, true, true, true, true, true, true, true, true, true, true, true, false, false, false] rfl rfl (by kernel_rfl) (fun _ _ _ h => h) (Or.inl ⟨by rfl, ?_⟩) ?_ ?_
    rotate_left
    · intro w'
      go_simp
      with_reducible rfl
    rotate_left
    · simp only [Act.put, List.setIfInBounds_toArray, List.set_cons_zero, List.set_cons_succ, i64_w, i32_w]
      rfl
    refine pure_ (i := 47) (N := some 71) (v := ?_) (a' := ?_) #[true, true, true, true, true, true, true, true, true, true, true, true, true, true, true, true, true, true, true, true, true, true, true, true, true, true, true, true, true, true, true, true, true, true, true, true, true, true, true, true, true, true, true, true, true, true, true, true, false, false] rfl rfl (by kernel_rfl) (fun _ _ _ h => h) (Or.inl ⟨by rfl, ?_⟩) ?_ ?_
    rotate_left
    · intro w'
      go_simp
      with_reducible rfl
    rotate_left
    · simp only [Act.put, List.setIfInBounds_toArray, List.set_cons_zero, List.set_cons_succ, i64_w, i32_w]
      rfl
    refine pure_ (i := 48) (N := some 72) (v := ?_) (a' := ?_) #[true, true, true, true, true, true, true, true, true, true, true, true, true, true, true, true, true, true, true, true, true, true, true, true, true, true, true, true, true, true, true, true, true, true, true, true, true, true, true, true, true, true, true, true, true, true, true, true, true, false] rfl rfl (by kernel_rfl) (fun _ _ _ h => h) (Or.inl ⟨by rfl, ?_⟩) ?_ ?_
    rotate_left
    · intro w'
      go_simp
      with_reducible rfl
    rotate_left
    · simp only [Act.put, List.setIfInBounds_toArray, List.set_cons_zero, List.set_cons_succ, i64_w, i32_w]
      rfl
    refine pure_ (i := 49) (N := some 4) (v := ?_) (a' := ?_) #[true, true, true, true, true, true, true, true, true, true, true, true, true, true, true, true, true, true, true, true, true, true, true, true, true, true, true, true, true, true, true, true, true, true, true, true, true, true, true, true, true, true, true, true, true, true, true, true, true, true] rfl rfl (by kernel_rfl) (fun _ _ _ h => h) (Or.inl ⟨by rfl, ?_⟩) ?_ ?_
    rotate_left
    · intro w'
      go_simp
      with_reducible rfl
    rotate_left
    · simp only [Act.put, List.setIfInBounds_toArray, List.set_cons_zero, List.set_cons_succ, i64_w, i32_w]
      rfl
    refine done_ (by kernel_rfl) ?_
    have nB := Lib.hid (B_w22.out)
    clear HB
    have HB := nB
    clear nB
    have n_ := Lib.hid (K_ma_w22.out)
    clear K_ma
    have K_ma := n_
    clear n_
    have n_ := Lib.hid (K_mb_w22.out)
    clear K_mb
    have K_mb := n_
    clear n_
    go_wp2_with fail
    go_ret
    exact ⟨rfl, HB.out⟩
  · have hno : shortB l0.length l1.length 0 = false := by simpa using hsh
    have HS := Lib.hid hno
    clear hsh hno
    go_wp2_with fail
    refine (short_any A0 c0 l0 A1 c1 l1 none 0 [] false HS.out _ (Kd.C_below HC0.out (by (with_reducible repeat (first | apply below_alloc | apply pw_below_drewN | apply below_drew1)); exact HB.out)) HL0.out (Kd.C_below HC1.out (by (with_reducible repeat (first | apply below_alloc | apply pw_below_drewN | apply below_drew1)); exact HB.out)) HL1.out (Kd.C_nil _ _) (Nat.le_refl _)).mono ?_
    rintro e_ w2 ⟨rfl, hb_⟩
    have nB : Hid (Below w.heap.size w w2) := Lib.hid (below_step (by (with_reducible repeat (first | apply below_alloc | apply pw_below_drewN | apply below_drew1)); exact HB.out) hb_)
    clear HB
    have HB := nB
    clear nB
    clear hb_
    go_wp2_with fail
    go_ret
    exact ⟨rfl, HB.out⟩
end Go.Proofs.YtjcppnleoahaiaaDoor.P
