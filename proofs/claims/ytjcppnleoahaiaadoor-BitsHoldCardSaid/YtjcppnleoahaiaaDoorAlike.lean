/- alike: a set is the document's. -/
import Derived.Test.YtjcppnleoahaiaaDoorRefText
namespace Go.Proofs.YtjcppnleoahaiaaDoor.P
open Go.RowKit Go.Proofs.YtjcppnleoahaiaaDoorW.PrintWords Go.Proofs.YtjcppnleoahaiaaDoorW.PrintLast Go.Proofs.YtjcppnleoahaiaaDoorW.PrintMore
set_option linter.unusedVariables false
set_option linter.unusedSimpArgs false
set_option maxRecDepth 100000 in
set_option maxHeartbeats 4000000 in
theorem alike_any (m : Nat → Bool) (A : Option Addr) (c : Nat) (w : World) (hT : Tabs w) (hr : Kd.C (Kd.int .i64) w A (listF m).length (listF m)) (hc : (listF m).length ≤ c) :
    Calls Tryd.prog 12 #[.agg (cells m), .agg #[.slice A (listF m).length c]] w fun e w' => e = .returned (.bool true) ∧ Below w.heap.size w w' := by
  have HT := Lib.hid hT
  have HR := Lib.hid hr
  have HC := Lib.hid hc
  have hu30 := Tryd.underlying30
  clear hT hr hc
  go_enter Tryd.func12, Tryd.ntmps12
  go_wp2_with fail
  obtain ⟨w2, hw2⟩ : ∃ W_, W_ = (w.alloc (.cells (cells m) 27)).alloc (.cells #[.slice A (listF m).length c] 30) := ⟨_, rfl⟩
  rw [← hw2]
  have K_m : Hid (w2.heap[w.heap.size]? = some (.cells (cells m) 27 (0, 0))) := Lib.hid (by rw [hw2]; exact blk_alloc (heap_alloc_new w _) _)
  have X_r : Hid (w2.cell? ⟨w.heap.size + 1, 0, none⟩ = some (.slice A (listF m).length c)) := Lib.hid (by rw [hw2]; exact (blk_cell (blk_new1 w _ _) 0).trans rfl)
  have HB : Hid (Below w.heap.size w w2) := Lib.hid (by rw [hw2]; exact below_alloc (below_alloc (Below.refl _ _) _) _)
  have R_r := Lib.hid (Kd.C_below HR.out HB.out)
  clear hw2
  refine start_ (n := 14) (S := fun w' => (loadVar 27 ⟨w.heap.size, 0, none⟩).run Tryd.prog w' = .ok (.agg (cells m)) w' ∧ w'.cell? ⟨w.heap.size + 1, 0, none⟩ = some (.slice A (listF m).length c)) (ds := []) #[false, false, false, false, false, false, false, false, false, false, false, false, false, false] (by kernel_rfl) rfl rfl ⟨load27 (blk_drew K_m.out), cell_drew X_r.out⟩ (fun hHeld => ?_)
  refine pure_ (i := 2) (N := some 7) (v := ?_) (a' := ?_) #[false, false, true, false, false, false, false, false, false, false, false, false, false, false] rfl rfl (by kernel_rfl) (fun _ _ _ h => h) (Or.inl ⟨by rfl, ?_⟩) ?_ ?_
  rotate_left
  · intro w'
    go_simp
    with_reducible rfl
  rotate_left
  · simp only [Act.put, List.setIfInBounds_toArray, List.set_cons_zero, List.set_cons_succ, i64_w, i32_w]
    rfl
  refine take_ (i := 0) (N := some 5) (v := ?_) (a' := ?_) #[true, false, true, false, false, false, false, false, false, false, false, false, false, false] rfl rfl (by kernel_rfl) (fun _ _ _ h => h) (Or.inl ⟨by rfl, ?_⟩) hHeld ?_ ?_
  rotate_left
  · rintro w' ⟨s0, s1⟩
    refine (exec_load _ _ 27 (.tmp 2) _ _ _ (by rfl) (by rfl) s0).trans ?_
    with_reducible rfl
  rotate_left
  · simp only [Act.put, List.setIfInBounds_toArray, List.set_cons_zero, List.set_cons_succ, i64_w, i32_w]
    rfl
  refine take_ (i := 3) (N := some 8) (v := ?_) (a' := ?_) #[true, false, true, true, false, false, false, false, false, false, false, false, false, false] rfl rfl (by kernel_rfl) (fun _ _ _ h => h) (Or.inl ⟨by rfl, ?_⟩) hHeld ?_ ?_
  rotate_left
  · rintro w' ⟨s0, s1⟩
    go_simp
    with_reducible rfl
  rotate_left
  · simp only [Act.put, List.setIfInBounds_toArray, List.set_cons_zero, List.set_cons_succ, i64_w, i32_w]
    rfl
  refine one_ (i := 1) (N := some 6) #[true, true, true, true, false, false, false, false, false, false, false, false, false, false] rfl rfl (by kernel_rfl) (by decide) (fun K hK => ?_)
  refine goes_ Tryd.func35 (by kernel_rfl) rfl #[.agg (cells m)] (by rfl) rfl rfl (by simp only [List.map_toArray, List.map_cons, List.map_nil]; rfl) ?_
  with_reducible refine (list_T m _ (HT.out.below ((below_drew HB.out)) HT.out.three)).mono ?_
  rintro e_ w3 ⟨v_, rfl, hR_, hb_⟩
  refine ⟨_, rfl, ?_⟩
  obtain ⟨A_n, c_n, rfl, hc_, hC_⟩ := Kd.R_reads hR_
  have C_n := Lib.hid hc_
  have B_w3 := Lib.hid (below_step ((below_drew HB.out)) hb_)
  have K_m_w3 := Lib.hid (blk_below (blk_drew K_m.out) hb_)
  have R_r_w3 := Lib.hid (Kd.C_below (Kd.C_drew R_r.out) hb_)
  have R_n_w3 := Lib.hid hC_
  have X_r_w3 := Lib.hid (pw_cell_below hb_ (cell_drew X_r.out))
  clear hb_ hR_ hc_ hC_
  refine hK.out _ _ ⟨load27 K_m_w3.out, X_r_w3.out⟩ (fun hHeld => ?_)
  clear hK K
  refine norm_ (a' := ?_) ?_ ?_
  rotate_left
  · show Act.put _ (some 6) _ = _
    simp only [Act.put, List.setIfInBounds_toArray, List.set_cons_zero, List.set_cons_succ, i64_w, i32_w]
    rfl
  refine one_ (i := 4) (N := some 9) #[true, true, true, true, true, false, false, false, false, false, false, false, false, false] rfl rfl (by kernel_rfl) (by decide) (fun K hK => ?_)
  refine goes_ Tryd.func36 (by kernel_rfl) rfl #[.slice A_n (listF m).length c_n, .slice A (listF m).length c] (by rfl) rfl rfl (by simp only [List.map_toArray, List.map_cons, List.map_nil]; rfl) ?_
  with_reducible refine (ints_same A_n c_n (listF m) A c (listF m) _ (R_n_w3.out) C_n.out (R_r_w3.out) HC.out rfl).mono ?_
  rintro e_ w4 ⟨rfl, hb_⟩
  refine ⟨_, rfl, ?_⟩
  have B_w4 := Lib.hid (below_step (B_w3.out) hb_)
  have K_m_w4 := Lib.hid (blk_below (K_m_w3.out) hb_)
  have R_r_w4 := Lib.hid (Kd.C_below (R_r_w3.out) hb_)
  have R_n_w4 := Lib.hid (Kd.C_below (R_n_w3.out) hb_)
  have X_r_w4 := Lib.hid (pw_cell_below hb_ (X_r_w3.out))
  clear hb_
  clear B_w3 K_m_w3 R_r_w3 R_n_w3
  refine hK.out _ _ ⟨load27 K_m_w4.out, X_r_w4.out⟩ (fun hHeld => ?_)
  clear hK K
  refine norm_ (a' := ?_) ?_ ?_
  rotate_left
  · show Act.put _ (some 9) _ = _
    simp only [Act.put, List.setIfInBounds_toArray, List.set_cons_zero, List.set_cons_succ, i64_w, i32_w]
    rfl
  refine pure_ (i := 5) (N := some 10) (v := ?_) (a' := ?_) #[true, true, true, true, true, true, false, false, false, false, false, false, false, false] rfl rfl (by kernel_rfl) (fun _ _ _ h => h) (Or.inl ⟨by rfl, ?_⟩) ?_ ?_
  rotate_left
  · intro w'
    go_simp
    with_reducible rfl
  rotate_left
  · simp only [Act.put, List.setIfInBounds_toArray, List.set_cons_zero, List.set_cons_succ, i64_w, i32_w]
    rfl
  refine pure_ (i := 8) (N := some 13) (v := ?_) (a' := ?_) #[true, true, true, true, true, true, false, false, true, false, false, false, false, false] rfl rfl (by kernel_rfl) (fun _ _ _ h => h) (Or.inl ⟨by rfl, ?_⟩) ?_ ?_
  rotate_left
  · intro w'
    go_simp
    with_reducible rfl
  rotate_left
  · simp only [Act.put, List.setIfInBounds_toArray, List.set_cons_zero, List.set_cons_succ, i64_w, i32_w]
    rfl
  refine take_ (i := 6) (N := some 11) (v := ?_) (a' := ?_) #[true, true, true, true, true, true, true, false, true, false, false, false, false, false] rfl rfl (by kernel_rfl) (fun _ _ _ h => h) (Or.inl ⟨by rfl, ?_⟩) hHeld ?_ ?_
  rotate_left
  · rintro w' ⟨s0, s1⟩
    refine (exec_load _ _ 27 (.tmp 2) _ _ _ (by rfl) (by rfl) s0).trans ?_
    with_reducible rfl
  rotate_left
  · simp only [Act.put, List.setIfInBounds_toArray, List.set_cons_zero, List.set_cons_succ, i64_w, i32_w]
    rfl
  refine take_ (i := 9) (N := some 14) (v := ?_) (a' := ?_) #[true, true, true, true, true, true, true, false, true, true, false, false, false, false] rfl rfl (by kernel_rfl) (fun _ _ _ h => h) (Or.inl ⟨by rfl, ?_⟩) hHeld ?_ ?_
  rotate_left
  · rintro w' ⟨s0, s1⟩
    go_simp
    with_reducible rfl
  rotate_left
  · simp only [Act.put, List.setIfInBounds_toArray, List.set_cons_zero, List.set_cons_succ, i64_w, i32_w]
    rfl
  refine pure_ (i := 10) (N := some 15) (v := ?_) (a' := ?_) #[true, true, true, true, true, true, true, false, true, true, true, false, false, false] rfl rfl (by kernel_rfl) (fun _ _ _ h => h) (Or.inl ⟨by rfl, ?_⟩) ?_ ?_
  rotate_left
  · intro w'
    go_simp
    with_reducible rfl
  rotate_left
  · simp only [Act.put, List.setIfInBounds_toArray, List.set_cons_zero, List.set_cons_succ, i64_w, i32_w]
    rfl
  refine one_ (i := 7) (N := some 12) #[true, true, true, true, true, true, true, true, true, true, true, false, false, false] rfl rfl (by kernel_rfl) (by decide) (fun K hK => ?_)
  refine goes_ Tryd.func25 (by kernel_rfl) rfl #[.agg (cells m)] (by rfl) rfl rfl (by simp only [List.map_toArray, List.map_cons, List.map_nil]; rfl) ?_
  with_reducible refine (count_is m (listF m).length (list_cnt m).symm _).mono ?_
  rintro e_ w5 ⟨rfl, hb_⟩
  refine ⟨_, rfl, ?_⟩
  have B_w5 := Lib.hid (below_step (B_w4.out) hb_)
  have K_m_w5 := Lib.hid (blk_below (K_m_w4.out) hb_)
  have R_r_w5 := Lib.hid (Kd.C_below (R_r_w4.out) hb_)
  have R_n_w5 := Lib.hid (Kd.C_below (R_n_w4.out) hb_)
  have X_r_w5 := Lib.hid (pw_cell_below hb_ (X_r_w4.out))
  clear hb_
  clear B_w4 K_m_w4 R_r_w4 R_n_w4
  refine hK.out _ _ ⟨load27 K_m_w5.out, X_r_w5.out⟩ (fun hHeld => ?_)
  clear hK K
  refine norm_ (a' := ?_) ?_ ?_
  rotate_left
  · show Act.put _ (some 12) _ = _
    simp only [Act.put, List.setIfInBounds_toArray, List.set_cons_zero, List.set_cons_succ, i64_w, i32_w]
    rfl
  refine pure_ (i := 11) (N := some 16) (v := ?_) (a' := ?_) #[true, true, true, true, true, true, true, true, true, true, true, true, false, false] rfl rfl (by kernel_rfl) (fun _ _ _ h => h) (Or.inl ⟨by rfl, ?_⟩) ?_ ?_
  rotate_left
  · intro w'
    go_simp
    with_reducible rfl
  rotate_left
  · simp only [Act.put, List.setIfInBounds_toArray, List.set_cons_zero, List.set_cons_succ, i64_w, i32_w]
    rfl
  refine pure_ (i := 12) (N := some 17) (v := ?_) (a' := ?_) #[true, true, true, true, true, true, true, true, true, true, true, true, true, false] rfl rfl (by kernel_rfl) (fun _ _ _ h => h) (Or.inl ⟨by rfl, ?_⟩) ?_ ?_
  rotate_left
  · intro w'
    go_simp
    with_reducible rfl
  rotate_left
  · simp only [Act.put, List.setIfInBounds_toArray, List.set_cons_zero, List.set_cons_succ, i64_w, i32_w]
    rfl
  refine pure_ (i := 13) (N := some 4) (v := ?_) (a' := ?_) #[true, true, true, true, true, true, true, true, true, true, true, true, true, true] rfl rfl (by kernel_rfl) (fun _ _ _ h => h) (Or.inl ⟨by rfl, ?_⟩) ?_ ?_
  rotate_left
  · intro w'
    go_simp
    with_reducible rfl
  rotate_left
  · simp only [Act.put, List.setIfInBounds_toArray, List.set_cons_zero, List.set_cons_succ, i64_w, i32_w]
    rfl
  refine done_ (by kernel_rfl) ?_
  have nB := Lib.hid (B_w5.out)
  clear HB
  have HB := nB
  clear nB
  have n_ := Lib.hid (K_m_w5.out)
  clear K_m
  have K_m := n_
  clear n_
  have n_ := Lib.hid (X_r_w5.out)
  clear X_r
  have X_r := n_
  clear n_
  have n_ := Lib.hid (R_r_w5.out)
  clear R_r
  have R_r := n_
  clear n_
  go_wp2_with fail
  go_ret
  exact ⟨rfl, HB.out⟩
theorem alike_is (m m' : Nat → Bool) (h : ∀ n, n < 4096 → m' n = m n) (A : Option Addr) (c : Nat) (w : World) (hT : Tabs w) (hr : Kd.C (Kd.int .i64) w A (listF m').length (listF m')) (hc : (listF m').length ≤ c) :
    Calls Tryd.prog 12 #[.agg (cells m), .agg #[.slice A (listF m').length c]] w fun e w' => e = .returned (.bool true) ∧ Below w.heap.size w w' := by
  rw [← cells_ext h]
  exact alike_any m' A c w hT hr hc
theorem cell30 {w : World} {g : Nat} {v : Value} (h : w.heap[g]? = some (.cells #[v] 30 (0, 0))) : w.cell? ⟨g, 0, none⟩ = some v := (blk_cell h 0).trans rfl
theorem run_alloc30 (w : World) : (Instr.alloc 30 true (.tuple #[])).run Tryd.prog w = .ok (.pointer (some ⟨w.heap.size, 0, none⟩)) (w.alloc (.cells #[.slice none 0 0] 30)) := by
  go_simp
theorem refOf_is (m : Nat → Bool) (A : Option Addr) (c0 : Nat) (l : List Int) (h : m = ofF l) (w : World) (hr : Kd.C (Kd.int .i64) w A l.length l) (hc : l.length ≤ c0) :
    Calls Tryd.prog 11 #[.slice A l.length c0] w fun e w' => RefIs w' (listF m) e ∧ Below w.heap.size w w' := h ▸ refOf_any A c0 l w hr hc
/-- A variable that a call's result, a set of the document's, is laid into. -/
theorem wpList_var30 {ops : Array Oper} {rest : List Oper} {oa os : Oper} {a : Act} {w : World} {Q : Exit → Act → World → Prop} {d : Tmp} (hga : oa.guard = none) (hda : oa.dst = some d) (ha : oa.op = .alloc 30) (hgs : os.guard = none) (hds : os.dst = none) (x : Operand) (hs : os.op = .store 30 (.tmp d) x)
    (v : Value) (hv : v.oneCell' = true) (hx : (a.put (some d) (.pointer (some ⟨w.heap.size, 0, none⟩))).eval x = .agg #[v]) (hd : (a.put (some d) (.pointer (some ⟨w.heap.size, 0, none⟩))).eval (.tmp d) = .pointer (some ⟨w.heap.size, 0, none⟩))
    (h : ∀ w' : World, w'.heap[w.heap.size]? = some (.cells #[v] 30 (0, 0)) → Below w.heap.size w w' → wpList Tryd.prog ops Q rest (a.put (some d) (.pointer (some ⟨w.heap.size, 0, none⟩))) w') : wpList Tryd.prog ops Q (oa :: os :: rest) a w := by
  refine Kd.event_run hga (v := .pointer (some ⟨w.heap.size, 0, none⟩)) (w1 := w.alloc (.cells #[.slice none 0 0] 30)) ?_ ?_
  · unfold execOp
    simp only [ha, Sem.run_bind, run_alloc30, Result.andThen_ok, Sem.run_pure]
  · rw [hda]
    refine wpList_store_row hgs 30 (.tmp d) x hs w.heap.size #[v] hd hx 30 #[.slice none 0 0] (heap_alloc_new w _) (by kernel_rfl) rfl (by simp [hv]) ?_
    rw [hds]
    exact h _ (blk_row (heap_alloc_new w _)) (below_row (below_alloc (Below.refl _ _) _) (Nat.le_refl _))
end Go.Proofs.YtjcppnleoahaiaaDoor.P
