/- bits.Set: what the laws' walks use. chapter 1's examples: they answer true. Chapter 1's laws: what the calls answer, as the laws want it. -/
import Derived.Test.YtjcppnleoahaiaaDoorBitsN
import Derived.Test.YtjcppnleoahaiaaDoorBitsH
import Derived.Test.YtjcppnleoahaiaaDoorPf36
import Derived.Test.YtjcppnleoahaiaaDoorPf23
namespace Go.Proofs.YtjcppnleoahaiaaDoor.P
open Go.RowKit Go.Proofs.YtjcppnleoahaiaaDoorW.PrintWords Go.Proofs.YtjcppnleoahaiaaDoorW.PrintLast Go.Proofs.YtjcppnleoahaiaaDoorW.PrintMore
set_option linter.unusedVariables false
set_option linter.unusedSimpArgs false
theorem info27 (m : Nat → Bool) : (Tryd.prog.info? 27).map (·.size) = some (cells m).size := by rw [cells_size]; kernel_rfl
theorem noughts_cells (m : Nat → Bool) : noughts.size = (cells m).size := by rw [cells_size]; rfl
theorem load27 {w : World} {g : Nat} {m : Nat → Bool} (h : w.heap[g]? = some (.cells (cells m) 27 (0, 0))) : (loadVar 27 ⟨g, 0, none⟩).run Tryd.prog w = .ok (.agg (cells m)) w :=
  run_loadVar_row _ _ 27 27 (cells m) (0, 0) _ h Tryd.underlying27 rfl (info27 m)
theorem C_lit {α : Type} (d : Kd α) (W : World) (e : Nat) (xs : List α) (cs : List Value) (h : Reps (d.K (W.alloc (.cells cs.toArray e))) d.sz xs cs) (hn : xs.length ≤ 9223372036854775807) :
    d.C (W.alloc (.cells cs.toArray e)) (some ⟨W.heap.size, 0, none⟩) xs.length xs := by
  have h2 := World.ownsRow_lit (base := 0) (e := e) (size := d.sz) W cs.toArray xs.length (Nat.zero_le _) (by simpa [maxLen] using hn) (by simpa using h.1)
  obtain ⟨A, c, he, hr⟩ := own_reads_row (by simpa using h2) h rfl
  cases he
  exact hr
theorem reps_ints (w : World) : ∀ xs : List Int, Reps ((Kd.int .i64).K w) (Kd.int .i64).sz xs (xs.map (Value.int .i64))
  | [] => Reps.none _ _
  | x :: xs => Reps.front (R := (Kd.int .i64).K w) (size := (Kd.int .i64).sz) (p := x) (c := [Value.int .i64 x]) rfl rfl (reps_ints w xs) rfl
theorem C_ints (W : World) (xs : List Int) (hn : xs.length ≤ 9223372036854775807) : Kd.C (Kd.int .i64) (W.alloc (.cells (xs.map (Value.int .i64)).toArray 3)) (some ⟨W.heap.size, 0, none⟩) xs.length xs :=
  C_lit _ W 3 xs _ (reps_ints _ xs) hn
theorem run_alloc27 (w : World) : (Instr.alloc 27 true (.tuple #[])).run Tryd.prog w = .ok (.pointer (some ⟨w.heap.size, 0, none⟩)) (w.alloc (.cells noughts 27)) := by
  go_simp
  rfl
/-- A variable that a call's result is laid into. -/
theorem wpList_var27 {ops : Array Oper} {rest : List Oper} {oa os : Oper} {a : Act} {w : World} {Q : Exit → Act → World → Prop} {d : Tmp} (hga : oa.guard = none) (hda : oa.dst = some d) (ha : oa.op = .alloc 27) (hgs : os.guard = none) (hds : os.dst = none) (x : Operand) (hs : os.op = .store 27 (.tmp d) x)
    (m : Nat → Bool) (hx : (a.put (some d) (.pointer (some ⟨w.heap.size, 0, none⟩))).eval x = .agg (cells m)) (hd : (a.put (some d) (.pointer (some ⟨w.heap.size, 0, none⟩))).eval (.tmp d) = .pointer (some ⟨w.heap.size, 0, none⟩))
    (h : ∀ w' : World, w'.heap[w.heap.size]? = some (.cells (cells m) 27 (0, 0)) → Below w.heap.size w w' → wpList Tryd.prog ops Q rest (a.put (some d) (.pointer (some ⟨w.heap.size, 0, none⟩))) w') : wpList Tryd.prog ops Q (oa :: os :: rest) a w := by
  refine Kd.event_run hga (v := .pointer (some ⟨w.heap.size, 0, none⟩)) (w1 := w.alloc (.cells noughts 27)) ?_ ?_
  · unfold execOp
    simp only [ha, Sem.run_bind, run_alloc27, Result.andThen_ok, Sem.run_pure]
  · rw [hda]
    refine wpList_store_row hgs 27 (.tmp d) x hs w.heap.size (cells m) hd hx 27 noughts (heap_alloc_new w _) (info27 m) (noughts_cells m) (cells_one m) ?_
    rw [hds]
    exact h _ (blk_row (heap_alloc_new w _)) (below_row (below_alloc (Below.refl _ _) _) (Nat.le_refl _))
/-! ### sameInts: plain -/
theorem wrap_small (i n : Nat) (h : i < n) (hn : n ≤ 1000000) : wrap64 ((i : Int) + 1) = ((i + 1 : Nat) : Int) := by unfold wrap64; omega
theorem ints_end (a b : List Int) (k i : Nat) (h : ¬ i < a.length) : runnellaw1_sameInts.l0 (k + 1) a b i = some true := by
    simp only [runnellaw1_sameInts.l0]
    have c1 : ¬ (i : Int) < (a.length : Int) := by omega
    rw [if_neg c1]
theorem ints_step (a b : List Int) (k i : Nat) (hl : i < a.length) (hl' : i < b.length) : runnellaw1_sameInts.l0 (k + 1) a b i = if a[i] = b[i] then runnellaw1_sameInts.l0 k a b (wrap64 ((i : Int) + 1)) else some false := by
    simp only [runnellaw1_sameInts.l0]
    have ra : rd a i = a[i] := by simp [rd, hl]
    have rb : rd b i = b[i] := by simp [rd, hl']
    have c1 : (i : Int) < (a.length : Int) := by omega
    have c2 : (0 : Int) ≤ (i : Int) := by omega
    have c3 : (i : Int) < (b.length : Int) := by omega
    rw [if_pos c1, if_pos c2, if_pos c3, ra, rb]
theorem ints_loop (a b : List Int) (hab : a.length = b.length) (hn : a.length ≤ 1000000) (d : Nat) : ∀ (k : Nat) (i : Nat), i ≤ a.length → a.length - i = d → d < k →
    runnellaw1_sameInts.l0 k a b i = some (decide (a.drop i = b.drop i)) := by
  induction d with
  | zero =>
    intro k i hi hd hk
    obtain ⟨k, rfl⟩ : ∃ m, k = m + 1 := ⟨k - 1, by omega⟩
    rw [ints_end a b k i (by omega), List.drop_of_length_le (by omega : a.length ≤ i), List.drop_of_length_le (by omega : b.length ≤ i)]
    rfl
  | succ d ih =>
    intro k i hi hd hk
    obtain ⟨k, rfl⟩ : ∃ m, k = m + 1 := ⟨k - 1, by omega⟩
    have hl : i < a.length := by omega
    have hl' : i < b.length := by omega
    rw [ints_step a b k i hl hl', List.drop_eq_getElem_cons hl, List.drop_eq_getElem_cons hl']
    by_cases h : a[i] = b[i]
    · rw [if_pos h, wrap_small i a.length hl hn, ih k (i + 1) (by omega) (by omega) (by omega)]
      exact congrArg some (decide_eq_decide.2 ⟨fun e => by rw [h, e], fun e => (List.cons.inj e).2⟩)
    · rw [if_neg h]
      exact congrArg some (decide_eq_false (fun e => h (List.cons.inj e).1)).symm
theorem ints_f (a b : List Int) (hn : a.length ≤ 1000000) : runnellaw1_sameInts.f (a.length + 1) a b = some (decide (a = b)) := by
  unfold runnellaw1_sameInts.f
  by_cases h : a.length = b.length
  · rw [if_pos (by omega)]
    have := ints_loop a b h hn a.length (a.length + 1) 0 (by omega) (by omega) (by omega)
    simpa using this
  · rw [if_neg (by omega)]
    have : a ≠ b := fun e => h (by rw [e])
    simp [this]
theorem ints_any (A0 : Option Addr) (c0 : Nat) (a : List Int) (A1 : Option Addr) (c1 : Nat) (b : List Int) (w : World) (hr0 : Kd.C (Kd.int .i64) w A0 a.length a) (hc0 : a.length ≤ c0) (hr1 : Kd.C (Kd.int .i64) w A1 b.length b) (hc1 : b.length ≤ c1) (hn : a.length ≤ 1000000) :
    Calls Tryd.prog 36 #[.slice A0 a.length c0, .slice A1 b.length c1] w fun e w' => e = .returned (.bool (decide (a = b))) ∧ Below w.heap.size w w' :=
  (runnellaw1_sameInts.calls (a.length + 1) A0 c0 a A1 c1 b _ w hr0 hc0 hr1 hc1 (ints_f a b hn)).mono fun _ _ hh => ⟨hh.1, hh.2.below⟩
theorem listF_len (m : Nat → Bool) : (listF m).length ≤ 4096 := listTo_len m 4096
theorem ints_same (A0 : Option Addr) (c0 : Nat) (a : List Int) (A1 : Option Addr) (c1 : Nat) (b : List Int) (w : World) (hr0 : Kd.C (Kd.int .i64) w A0 a.length a) (hc0 : a.length ≤ c0) (hr1 : Kd.C (Kd.int .i64) w A1 b.length b) (hc1 : b.length ≤ c1) (h : a = b) (hn : a.length ≤ 1000000 := by exact Nat.le_trans (listF_len _) (by omega)) :
    Calls Tryd.prog 36 #[.slice A0 a.length c0, .slice A1 b.length c1] w fun e w' => e = .returned (.bool true) ∧ Below w.heap.size w w' := by
  have := ints_any A0 c0 a A1 c1 b w hr0 hc0 hr1 hc1 hn
  rw [decide_eq_true h] at this
  exact this
theorem text_is (m : Nat → Bool) (t : List UInt8) (h : textF m = t) (w : World) (hT : Tabs w) : Calls Tryd.prog 21 #[.agg (cells m)] w fun e w' => e = .returned (.string ⟨t.toArray⟩) ∧ Below w.heap.size w w' := by
  rw [← h]
  exact text_any m w hT
theorem Tabs.pos {w : World} (h : Tabs w) : 0 < w.heap.size := by have := h.2.2; omega
theorem next_is (m : Nat → Bool) (n v : Int) (h : nextF m n = v) (w : World) (hn : n ≤ 9223372036854775807) (hT : Tabs w) : Calls Tryd.prog 19 #[.agg (cells m), .int .i64 n] w fun e w' => e = .returned (.int .i64 v) ∧ Below w.heap.size w w' := by
  rw [← h]
  exact next_call m n w hn hT.1 hT.pos
theorem list_T (m : Nat → Bool) (w : World) (hT : Tabs w) :
    Calls Tryd.prog 35 #[.agg (cells m)] w fun e w' => ∃ v_, e = .returned v_ ∧ Kd.R (Kd.int .i64) 3 w' w.heap.size (fun _ => True) v_ (listF m) ∧ Below w.heap.size w w' := list_any m w hT.1 hT.pos
/-- A set is loaded (behind a guard that holds, too). -/
theorem wpList_load27 {ops : Array Oper} {rest : List Oper} {o : Oper} {a : Act} {w : World} {Q : Exit → Act → World → Prop} (hw : Region.wanted o (yielded ops a.tmps) = true) (x : Operand) (ho : o.op = .load 27 x)
    (g : Nat) (hx : a.eval x = .pointer (some ⟨g, 0, none⟩)) (m : Nat → Bool) (hg : w.heap[g]? = some (.cells (cells m) 27 (0, 0))) (h : wpList Tryd.prog ops Q rest (a.put o.dst (.agg (cells m))) w) : wpList Tryd.prog ops Q (o :: rest) a w :=
  wpList_step fun K hK => by
    rw [if_pos hw]
    exact wp_load_row 27 x ho g hx 27 (cells m) (0, 0) _ hg Tryd.underlying27 rfl (info27 m) (hK _ _ h)
end Go.Proofs.YtjcppnleoahaiaaDoor.P
namespace Go.Proofs.YtjcppnleoahaiaaDoor.P
open Go.RowKit Go.Proofs.YtjcppnleoahaiaaDoorW.PrintWords Go.Proofs.YtjcppnleoahaiaaDoorW.PrintLast Go.Proofs.YtjcppnleoahaiaaDoorW.PrintMore
set_option linter.unusedVariables false
set_option linter.unusedSimpArgs false
theorem sh_l1 : listF (ofF [5, 3, 5, -1, 4096]) = [3, 5] := by decide +kernel
theorem sh_l6 : listF (minF (orF (ofF [1, 2]) (ofF [2, 9])) (ofF [1])) = [2, 9] := by decide +kernel
theorem sh_n2 : nextF (ofF [3]) 2 = 3 := by decide +kernel
theorem sh_n4 : nextF (ofF [3]) 4 = -1 := by decide +kernel
theorem sh_i8 : itemsF (ofF [1, 2, 3, 5, 6]) 0 = [(1, 3), (5, 5), (6, 6)] := by decide +kernel
theorem sh_t8 : textF (ofF [1, 2, 3, 5, 6]) = [49, 45, 51, 44, 53, 44, 54] := by
  rw [textF_join, sh_i8]
  simp only [joinT, itemT, itoa_nat, Lib.decDigits_one (show 1 < 10 by omega), Lib.decDigits_one (show 3 < 10 by omega), Lib.decDigits_one (show 5 < 10 by omega), Lib.decDigits_one (show 6 < 10 by omega)]
  decide
set_option maxRecDepth 100000 in
set_option maxHeartbeats 4000000 in
theorem shown_any (w : World) (hT : Tabs w) : Calls Tryd.prog 9 #[] w fun e w' => e = .returned (.bool true) ∧ Below w.heap.size w w' := by
  have HT := Lib.hid hT
  clear hT
  have HB : Hid (Below w.heap.size w w) := Lib.hid (Below.refl _ _)
  go_enter Tryd.func9, Tryd.ntmps9
  go_wp2_with fail
  refine (of_any _ _ [5, 3, 5, -1, 4096] _ (C_ints _ [5, 3, 5, -1, 4096] (by decide))).mono ?_
  rintro e_ w1 ⟨rfl, hb_⟩
  have nB : Hid (Below w.heap.size w w1) := Lib.hid (below_step (by (with_reducible repeat (first | apply below_alloc | apply pw_below_drewN | apply below_drew1)); exact HB.out) hb_)
  clear HB
  have HB := nB
  clear nB
  clear hb_
  obtain ⟨m1, hm_⟩ : ∃ m_ : Nat → Bool, m_ = ofF [5, 3, 5, -1, 4096] := ⟨_, rfl⟩
  rw [← hm_]
  have M_m1 := Lib.hid hm_
  clear hm_
  go_wp2_with (((with_reducible refine gate_dst (N := 1) rfl ?_); refine Stp.out ?_))
  unfold Stp
  refine wpList_var27 rfl rfl rfl rfl rfl _ rfl m1 rfl rfl ?_
  intro w2 hk_ hb_
  have K_m1 : Hid (w2.heap[w1.heap.size]? = some (.cells (cells m1) 27 (0, 0))) := Lib.hid hk_
  clear hk_
  have nB : Hid (Below w.heap.size w w2) := Lib.hid (below_step (by (with_reducible repeat (first | apply below_alloc | apply pw_below_drewN | apply below_drew1)); exact HB.out) hb_)
  clear HB
  have HB := nB
  clear nB
  clear hb_
  go_wp2_with fail
  refine (of_any _ _ [1, 2] _ (C_ints _ [1, 2] (by decide))).mono ?_
  rintro e_ w3 ⟨rfl, hb_⟩
  have nB : Hid (Below w.heap.size w w3) := Lib.hid (below_step (by (with_reducible repeat (first | apply below_alloc | apply pw_below_drewN | apply below_drew1)); exact HB.out) hb_)
  clear HB
  have HB := nB
  clear nB
  have n_m1 : Hid (w3.heap[w1.heap.size]? = some (.cells (cells m1) 27 (0, 0))) := Lib.hid (blk_below (by (with_reducible repeat (first | refine blk_drewN ?_ _ | refine blk_drew ?_ | refine blk_alloc ?_ _)); exact K_m1.out) hb_)
  clear K_m1
  have K_m1 := n_m1
  clear n_m1
  clear hb_
  obtain ⟨m2, hm_⟩ : ∃ m_ : Nat → Bool, m_ = ofF [1, 2] := ⟨_, rfl⟩
  rw [← hm_]
  have M_m2 := Lib.hid hm_
  clear hm_
  go_wp2_with fail
  refine (of_any _ _ [2, 9] _ (C_ints _ [2, 9] (by decide))).mono ?_
  rintro e_ w4 ⟨rfl, hb_⟩
  have nB : Hid (Below w.heap.size w w4) := Lib.hid (below_step (by (with_reducible repeat (first | apply below_alloc | apply pw_below_drewN | apply below_drew1)); exact HB.out) hb_)
  clear HB
  have HB := nB
  clear nB
  have n_m1 : Hid (w4.heap[w1.heap.size]? = some (.cells (cells m1) 27 (0, 0))) := Lib.hid (blk_below (by (with_reducible repeat (first | refine blk_drewN ?_ _ | refine blk_drew ?_ | refine blk_alloc ?_ _)); exact K_m1.out) hb_)
  clear K_m1
  have K_m1 := n_m1
  clear n_m1
  clear hb_
  obtain ⟨m3, hm_⟩ : ∃ m_ : Nat → Bool, m_ = ofF [2, 9] := ⟨_, rfl⟩
  rw [← hm_]
  have M_m3 := Lib.hid hm_
  clear hm_
  go_wp2_with fail
  refine (or_any m2 m3 _).mono ?_
  rintro e_ w5 ⟨rfl, hb_⟩
  have nB : Hid (Below w.heap.size w w5) := Lib.hid (below_step (by (with_reducible repeat (first | apply below_alloc | apply pw_below_drewN | apply below_drew1)); exact HB.out) hb_)
  clear HB
  have HB := nB
  clear nB
  have n_m1 : Hid (w5.heap[w1.heap.size]? = some (.cells (cells m1) 27 (0, 0))) := Lib.hid (blk_below (by (with_reducible repeat (first | refine blk_drewN ?_ _ | refine blk_drew ?_ | refine blk_alloc ?_ _)); exact K_m1.out) hb_)
  clear K_m1
  have K_m1 := n_m1
  clear n_m1
  clear hb_
  obtain ⟨m4, hm_⟩ : ∃ m_ : Nat → Bool, m_ = orF m2 m3 := ⟨_, rfl⟩
  rw [← hm_]
  have M_m4 := Lib.hid hm_
  clear hm_
  go_wp2_with fail
  refine (of_any _ _ [1] _ (C_ints _ [1] (by decide))).mono ?_
  rintro e_ w6 ⟨rfl, hb_⟩
  have nB : Hid (Below w.heap.size w w6) := Lib.hid (below_step (by (with_reducible repeat (first | apply below_alloc | apply pw_below_drewN | apply below_drew1)); exact HB.out) hb_)
  clear HB
  have HB := nB
  clear nB
  have n_m1 : Hid (w6.heap[w1.heap.size]? = some (.cells (cells m1) 27 (0, 0))) := Lib.hid (blk_below (by (with_reducible repeat (first | refine blk_drewN ?_ _ | refine blk_drew ?_ | refine blk_alloc ?_ _)); exact K_m1.out) hb_)
  clear K_m1
  have K_m1 := n_m1
  clear n_m1
  clear hb_
  obtain ⟨m5, hm_⟩ : ∃ m_ : Nat → Bool, m_ = ofF [1] := ⟨_, rfl⟩
  rw [← hm_]
  have M_m5 := Lib.hid hm_
  clear hm_
  go_wp2_with fail
  refine (minus_any m4 m5 _).mono ?_
  rintro e_ w7 ⟨rfl, hb_⟩
  have nB : Hid (Below w.heap.size w w7) := Lib.hid (below_step (by (with_reducible repeat (first | apply below_alloc | apply pw_below_drewN | apply below_drew1)); exact HB.out) hb_)
  clear HB
  have HB := nB
  clear nB
  have n_m1 : Hid (w7.heap[w1.heap.size]? = some (.cells (cells m1) 27 (0, 0))) := Lib.hid (blk_below (by (with_reducible repeat (first | refine blk_drewN ?_ _ | refine blk_drew ?_ | refine blk_alloc ?_ _)); exact K_m1.out) hb_)
  clear K_m1
  have K_m1 := n_m1
  clear n_m1
  clear hb_
  obtain ⟨m6, hm_⟩ : ∃ m_ : Nat → Bool, m_ = minF m4 m5 := ⟨_, rfl⟩
  rw [← hm_]
  have M_m6 := Lib.hid hm_
  clear hm_
  go_wp2_with (((with_reducible refine gate_dst (N := 2) rfl ?_); refine Stp.out ?_))
  unfold Stp
  refine wpList_var27 rfl rfl rfl rfl rfl _ rfl m6 rfl rfl ?_
  intro w8 hk_ hb_
  have K_m6 : Hid (w8.heap[w7.heap.size]? = some (.cells (cells m6) 27 (0, 0))) := Lib.hid hk_
  clear hk_
  have nB : Hid (Below w.heap.size w w8) := Lib.hid (below_step (by (with_reducible repeat (first | apply below_alloc | apply pw_below_drewN | apply below_drew1)); exact HB.out) hb_)
  clear HB
  have HB := nB
  clear nB
  have n_m1 : Hid (w8.heap[w1.heap.size]? = some (.cells (cells m1) 27 (0, 0))) := Lib.hid (blk_below (by (with_reducible repeat (first | refine blk_drewN ?_ _ | refine blk_drew ?_ | refine blk_alloc ?_ _)); exact K_m1.out) hb_)
  clear K_m1
  have K_m1 := n_m1
  clear n_m1
  clear hb_
  go_wp2_with fail
  refine (of_any _ _ [3] _ (C_ints _ [3] (by decide))).mono ?_
  rintro e_ w9 ⟨rfl, hb_⟩
  have nB : Hid (Below w.heap.size w w9) := Lib.hid (below_step (by (with_reducible repeat (first | apply below_alloc | apply pw_below_drewN | apply below_drew1)); exact HB.out) hb_)
  clear HB
  have HB := nB
  clear nB
  have n_m1 : Hid (w9.heap[w1.heap.size]? = some (.cells (cells m1) 27 (0, 0))) := Lib.hid (blk_below (by (with_reducible repeat (first | refine blk_drewN ?_ _ | refine blk_drew ?_ | refine blk_alloc ?_ _)); exact K_m1.out) hb_)
  clear K_m1
  have K_m1 := n_m1
  clear n_m1
  have n_m6 : Hid (w9.heap[w7.heap.size]? = some (.cells (cells m6) 27 (0, 0))) := Lib.hid (blk_below (by (with_reducible repeat (first | refine blk_drewN ?_ _ | refine blk_drew ?_ | refine blk_alloc ?_ _)); exact K_m6.out) hb_)
  clear K_m6
  have K_m6 := n_m6
  clear n_m6
  clear hb_
  obtain ⟨m7, hm_⟩ : ∃ m_ : Nat → Bool, m_ = ofF [3] := ⟨_, rfl⟩
  rw [← hm_]
  have M_m7 := Lib.hid hm_
  clear hm_
  go_wp2_with (((with_reducible refine gate_dst (N := 3) rfl ?_); refine Stp.out ?_))
  unfold Stp
  refine wpList_var27 rfl rfl rfl rfl rfl _ rfl m7 rfl rfl ?_
  intro w10 hk_ hb_
  have K_m7 : Hid (w10.heap[w9.heap.size]? = some (.cells (cells m7) 27 (0, 0))) := Lib.hid hk_
  clear hk_
  have nB : Hid (Below w.heap.size w w10) := Lib.hid (below_step (by (with_reducible repeat (first | apply below_alloc | apply pw_below_drewN | apply below_drew1)); exact HB.out) hb_)
  clear HB
  have HB := nB
  clear nB
  have n_m1 : Hid (w10.heap[w1.heap.size]? = some (.cells (cells m1) 27 (0, 0))) := Lib.hid (blk_below (by (with_reducible repeat (first | refine blk_drewN ?_ _ | refine blk_drew ?_ | refine blk_alloc ?_ _)); exact K_m1.out) hb_)
  clear K_m1
  have K_m1 := n_m1
  clear n_m1
  have n_m6 : Hid (w10.heap[w7.heap.size]? = some (.cells (cells m6) 27 (0, 0))) := Lib.hid (blk_below (by (with_reducible repeat (first | refine blk_drewN ?_ _ | refine blk_drew ?_ | refine blk_alloc ?_ _)); exact K_m6.out) hb_)
  clear K_m6
  have K_m6 := n_m6
  clear n_m6
  clear hb_
  go_wp2_with (((with_reducible refine gate_dst (N := 16) rfl ?_); refine Stp.out ?_))
  unfold Stp
  refine wpList_load27 rfl (.tmp 1) rfl _ rfl m1 K_m1.out ?_
  go_wp2_with fail
  refine (list_T m1 _ (HT.out.below (by (with_reducible repeat (first | apply below_alloc | apply pw_below_drewN | apply below_drew1)); exact HB.out) HT.out.2.2)).mono ?_
  rintro e_ w11 ⟨v_, rfl, hR_, hb_⟩
  obtain ⟨A_l1, c_l1, rfl, hc_, hC_⟩ := Kd.R_reads hR_
  have C_l1 := Lib.hid hc_
  have nB : Hid (Below w.heap.size w w11) := Lib.hid (below_step (by (with_reducible repeat (first | apply below_alloc | apply pw_below_drewN | apply below_drew1)); exact HB.out) hb_)
  clear HB
  have HB := nB
  clear nB
  have n_m1 : Hid (w11.heap[w1.heap.size]? = some (.cells (cells m1) 27 (0, 0))) := Lib.hid (blk_below (by (with_reducible repeat (first | refine blk_drewN ?_ _ | refine blk_drew ?_ | refine blk_alloc ?_ _)); exact K_m1.out) hb_)
  clear K_m1
  have K_m1 := n_m1
  clear n_m1
  have n_m6 : Hid (w11.heap[w7.heap.size]? = some (.cells (cells m6) 27 (0, 0))) := Lib.hid (blk_below (by (with_reducible repeat (first | refine blk_drewN ?_ _ | refine blk_drew ?_ | refine blk_alloc ?_ _)); exact K_m6.out) hb_)
  clear K_m6
  have K_m6 := n_m6
  clear n_m6
  have n_m7 : Hid (w11.heap[w9.heap.size]? = some (.cells (cells m7) 27 (0, 0))) := Lib.hid (blk_below (by (with_reducible repeat (first | refine blk_drewN ?_ _ | refine blk_drew ?_ | refine blk_alloc ?_ _)); exact K_m7.out) hb_)
  clear K_m7
  have K_m7 := n_m7
  clear n_m7
  have R_l1 : Hid (Kd.C (Kd.int .i64) w11 A_l1 (listF m1).length (listF m1)) := Lib.hid hC_
  clear hb_ hR_ hc_ hC_
  go_wp2_with fail
  refine (ints_same _ _ (listF m1) _ _ [3, 5] _ (by (with_reducible repeat (first | apply Kd.C_alloc | apply Kd.C_drewN | apply Kd.C_drew)); exact R_l1.out) C_l1.out (C_ints _ [3, 5] (by decide)) (by decide) (by rw [M_m1.out]; exact sh_l1)).mono ?_
  rintro e_ w12 ⟨rfl, hb_⟩
  have nB : Hid (Below w.heap.size w w12) := Lib.hid (below_step (by (with_reducible repeat (first | apply below_alloc | apply pw_below_drewN | apply below_drew1)); exact HB.out) hb_)
  clear HB
  have HB := nB
  clear nB
  have n_m1 : Hid (w12.heap[w1.heap.size]? = some (.cells (cells m1) 27 (0, 0))) := Lib.hid (blk_below (by (with_reducible repeat (first | refine blk_drewN ?_ _ | refine blk_drew ?_ | refine blk_alloc ?_ _)); exact K_m1.out) hb_)
  clear K_m1
  have K_m1 := n_m1
  clear n_m1
  have n_m6 : Hid (w12.heap[w7.heap.size]? = some (.cells (cells m6) 27 (0, 0))) := Lib.hid (blk_below (by (with_reducible repeat (first | refine blk_drewN ?_ _ | refine blk_drew ?_ | refine blk_alloc ?_ _)); exact K_m6.out) hb_)
  clear K_m6
  have K_m6 := n_m6
  clear n_m6
  have n_m7 : Hid (w12.heap[w9.heap.size]? = some (.cells (cells m7) 27 (0, 0))) := Lib.hid (blk_below (by (with_reducible repeat (first | refine blk_drewN ?_ _ | refine blk_drew ?_ | refine blk_alloc ?_ _)); exact K_m7.out) hb_)
  clear K_m7
  have K_m7 := n_m7
  clear n_m7
  have n_l1 : Hid (Kd.C (Kd.int .i64) w12 A_l1 (listF m1).length (listF m1)) := Lib.hid (Kd.C_below (by (with_reducible repeat (first | apply Kd.C_alloc | apply Kd.C_drewN | apply Kd.C_drew)); exact R_l1.out) hb_)
  clear R_l1
  have R_l1 := n_l1
  clear n_l1
  clear hb_
  clear R_l1
  go_wp2_with fail
  refine (of_any _ _ [1, 2, 3, 5, 6] _ (C_ints _ [1, 2, 3, 5, 6] (by decide))).mono ?_
  rintro e_ w13 ⟨rfl, hb_⟩
  have nB : Hid (Below w.heap.size w w13) := Lib.hid (below_step (by (with_reducible repeat (first | apply below_alloc | apply pw_below_drewN | apply below_drew1)); exact HB.out) hb_)
  clear HB
  have HB := nB
  clear nB
  have n_m1 : Hid (w13.heap[w1.heap.size]? = some (.cells (cells m1) 27 (0, 0))) := Lib.hid (blk_below (by (with_reducible repeat (first | refine blk_drewN ?_ _ | refine blk_drew ?_ | refine blk_alloc ?_ _)); exact K_m1.out) hb_)
  clear K_m1
  have K_m1 := n_m1
  clear n_m1
  have n_m6 : Hid (w13.heap[w7.heap.size]? = some (.cells (cells m6) 27 (0, 0))) := Lib.hid (blk_below (by (with_reducible repeat (first | refine blk_drewN ?_ _ | refine blk_drew ?_ | refine blk_alloc ?_ _)); exact K_m6.out) hb_)
  clear K_m6
  have K_m6 := n_m6
  clear n_m6
  have n_m7 : Hid (w13.heap[w9.heap.size]? = some (.cells (cells m7) 27 (0, 0))) := Lib.hid (blk_below (by (with_reducible repeat (first | refine blk_drewN ?_ _ | refine blk_drew ?_ | refine blk_alloc ?_ _)); exact K_m7.out) hb_)
  clear K_m7
  have K_m7 := n_m7
  clear n_m7
  clear hb_
  obtain ⟨m8, hm_⟩ : ∃ m_ : Nat → Bool, m_ = ofF [1, 2, 3, 5, 6] := ⟨_, rfl⟩
  rw [← hm_]
  have M_m8 := Lib.hid hm_
  clear hm_
  go_wp2_with fail
  refine (text_is m8 [49, 45, 51, 44, 53, 44, 54] (by rw [M_m8.out]; exact sh_t8) _ (HT.out.below (by (with_reducible repeat (first | apply below_alloc | apply pw_below_drewN | apply below_drew1)); exact HB.out) HT.out.2.2)).mono ?_
  rintro e_ w14 ⟨rfl, hb_⟩
  have nB : Hid (Below w.heap.size w w14) := Lib.hid (below_step (by (with_reducible repeat (first | apply below_alloc | apply pw_below_drewN | apply below_drew1)); exact HB.out) hb_)
  clear HB
  have HB := nB
  clear nB
  have n_m1 : Hid (w14.heap[w1.heap.size]? = some (.cells (cells m1) 27 (0, 0))) := Lib.hid (blk_below (by (with_reducible repeat (first | refine blk_drewN ?_ _ | refine blk_drew ?_ | refine blk_alloc ?_ _)); exact K_m1.out) hb_)
  clear K_m1
  have K_m1 := n_m1
  clear n_m1
  have n_m6 : Hid (w14.heap[w7.heap.size]? = some (.cells (cells m6) 27 (0, 0))) := Lib.hid (blk_below (by (with_reducible repeat (first | refine blk_drewN ?_ _ | refine blk_drew ?_ | refine blk_alloc ?_ _)); exact K_m6.out) hb_)
  clear K_m6
  have K_m6 := n_m6
  clear n_m6
  have n_m7 : Hid (w14.heap[w9.heap.size]? = some (.cells (cells m7) 27 (0, 0))) := Lib.hid (blk_below (by (with_reducible repeat (first | refine blk_drewN ?_ _ | refine blk_drew ?_ | refine blk_alloc ?_ _)); exact K_m7.out) hb_)
  clear K_m7
  have K_m7 := n_m7
  clear n_m7
  clear hb_
  go_wp2_with (((with_reducible refine gate_dst (N := 27) rfl ?_); refine Stp.out ?_))
  unfold Stp
  refine wpList_load27 rfl (.tmp 2) rfl _ rfl m6 K_m6.out ?_
  go_wp2_with fail
  refine (list_T m6 _ (HT.out.below (by (with_reducible repeat (first | apply below_alloc | apply pw_below_drewN | apply below_drew1)); exact HB.out) HT.out.2.2)).mono ?_
  rintro e_ w15 ⟨v_, rfl, hR_, hb_⟩
  obtain ⟨A_l6, c_l6, rfl, hc_, hC_⟩ := Kd.R_reads hR_
  have C_l6 := Lib.hid hc_
  have nB : Hid (Below w.heap.size w w15) := Lib.hid (below_step (by (with_reducible repeat (first | apply below_alloc | apply pw_below_drewN | apply below_drew1)); exact HB.out) hb_)
  clear HB
  have HB := nB
  clear nB
  have n_m1 : Hid (w15.heap[w1.heap.size]? = some (.cells (cells m1) 27 (0, 0))) := Lib.hid (blk_below (by (with_reducible repeat (first | refine blk_drewN ?_ _ | refine blk_drew ?_ | refine blk_alloc ?_ _)); exact K_m1.out) hb_)
  clear K_m1
  have K_m1 := n_m1
  clear n_m1
  have n_m6 : Hid (w15.heap[w7.heap.size]? = some (.cells (cells m6) 27 (0, 0))) := Lib.hid (blk_below (by (with_reducible repeat (first | refine blk_drewN ?_ _ | refine blk_drew ?_ | refine blk_alloc ?_ _)); exact K_m6.out) hb_)
  clear K_m6
  have K_m6 := n_m6
  clear n_m6
  have n_m7 : Hid (w15.heap[w9.heap.size]? = some (.cells (cells m7) 27 (0, 0))) := Lib.hid (blk_below (by (with_reducible repeat (first | refine blk_drewN ?_ _ | refine blk_drew ?_ | refine blk_alloc ?_ _)); exact K_m7.out) hb_)
  clear K_m7
  have K_m7 := n_m7
  clear n_m7
  have R_l6 : Hid (Kd.C (Kd.int .i64) w15 A_l6 (listF m6).length (listF m6)) := Lib.hid hC_
  clear hb_ hR_ hc_ hC_
  go_wp2_with fail
  refine (ints_same _ _ (listF m6) _ _ [2, 9] _ (by (with_reducible repeat (first | apply Kd.C_alloc | apply Kd.C_drewN | apply Kd.C_drew)); exact R_l6.out) C_l6.out (C_ints _ [2, 9] (by decide)) (by decide) (by rw [M_m6.out, M_m4.out, M_m5.out, M_m2.out, M_m3.out]; exact sh_l6)).mono ?_
  rintro e_ w16 ⟨rfl, hb_⟩
  have nB : Hid (Below w.heap.size w w16) := Lib.hid (below_step (by (with_reducible repeat (first | apply below_alloc | apply pw_below_drewN | apply below_drew1)); exact HB.out) hb_)
  clear HB
  have HB := nB
  clear nB
  have n_m1 : Hid (w16.heap[w1.heap.size]? = some (.cells (cells m1) 27 (0, 0))) := Lib.hid (blk_below (by (with_reducible repeat (first | refine blk_drewN ?_ _ | refine blk_drew ?_ | refine blk_alloc ?_ _)); exact K_m1.out) hb_)
  clear K_m1
  have K_m1 := n_m1
  clear n_m1
  have n_m6 : Hid (w16.heap[w7.heap.size]? = some (.cells (cells m6) 27 (0, 0))) := Lib.hid (blk_below (by (with_reducible repeat (first | refine blk_drewN ?_ _ | refine blk_drew ?_ | refine blk_alloc ?_ _)); exact K_m6.out) hb_)
  clear K_m6
  have K_m6 := n_m6
  clear n_m6
  have n_m7 : Hid (w16.heap[w9.heap.size]? = some (.cells (cells m7) 27 (0, 0))) := Lib.hid (blk_below (by (with_reducible repeat (first | refine blk_drewN ?_ _ | refine blk_drew ?_ | refine blk_alloc ?_ _)); exact K_m7.out) hb_)
  clear K_m7
  have K_m7 := n_m7
  clear n_m7
  have n_l6 : Hid (Kd.C (Kd.int .i64) w16 A_l6 (listF m6).length (listF m6)) := Lib.hid (Kd.C_below (by (with_reducible repeat (first | apply Kd.C_alloc | apply Kd.C_drewN | apply Kd.C_drew)); exact R_l6.out) hb_)
  clear R_l6
  have R_l6 := n_l6
  clear n_l6
  clear hb_
  clear R_l6
  go_wp2_with (((with_reducible refine gate_dst (N := 33) rfl ?_); refine Stp.out ?_))
  unfold Stp
  refine wpList_load27 rfl (.tmp 3) rfl _ rfl m7 K_m7.out ?_
  go_wp2_with fail
  refine (next_is m7 2 3 (by rw [M_m7.out]; exact sh_n2) _ (by omega) (HT.out.below (by (with_reducible repeat (first | apply below_alloc | apply pw_below_drewN | apply below_drew1)); exact HB.out) HT.out.2.2)).mono ?_
  rintro e_ w17 ⟨rfl, hb_⟩
  have nB : Hid (Below w.heap.size w w17) := Lib.hid (below_step (by (with_reducible repeat (first | apply below_alloc | apply pw_below_drewN | apply below_drew1)); exact HB.out) hb_)
  clear HB
  have HB := nB
  clear nB
  have n_m1 : Hid (w17.heap[w1.heap.size]? = some (.cells (cells m1) 27 (0, 0))) := Lib.hid (blk_below (by (with_reducible repeat (first | refine blk_drewN ?_ _ | refine blk_drew ?_ | refine blk_alloc ?_ _)); exact K_m1.out) hb_)
  clear K_m1
  have K_m1 := n_m1
  clear n_m1
  have n_m6 : Hid (w17.heap[w7.heap.size]? = some (.cells (cells m6) 27 (0, 0))) := Lib.hid (blk_below (by (with_reducible repeat (first | refine blk_drewN ?_ _ | refine blk_drew ?_ | refine blk_alloc ?_ _)); exact K_m6.out) hb_)
  clear K_m6
  have K_m6 := n_m6
  clear n_m6
  have n_m7 : Hid (w17.heap[w9.heap.size]? = some (.cells (cells m7) 27 (0, 0))) := Lib.hid (blk_below (by (with_reducible repeat (first | refine blk_drewN ?_ _ | refine blk_drew ?_ | refine blk_alloc ?_ _)); exact K_m7.out) hb_)
  clear K_m7
  have K_m7 := n_m7
  clear n_m7
  clear hb_
  go_wp2_with (((with_reducible refine gate_dst (N := 38) rfl ?_); refine Stp.out ?_))
  unfold Stp
  refine wpList_load27 rfl (.tmp 3) rfl _ rfl m7 K_m7.out ?_
  go_wp2_with fail
  refine (next_is m7 4 (-1) (by rw [M_m7.out]; exact sh_n4) _ (by omega) (HT.out.below (by (with_reducible repeat (first | apply below_alloc | apply pw_below_drewN | apply below_drew1)); exact HB.out) HT.out.2.2)).mono ?_
  rintro e_ w18 ⟨rfl, hb_⟩
  have nB : Hid (Below w.heap.size w w18) := Lib.hid (below_step (by (with_reducible repeat (first | apply below_alloc | apply pw_below_drewN | apply below_drew1)); exact HB.out) hb_)
  clear HB
  have HB := nB
  clear nB
  have n_m1 : Hid (w18.heap[w1.heap.size]? = some (.cells (cells m1) 27 (0, 0))) := Lib.hid (blk_below (by (with_reducible repeat (first | refine blk_drewN ?_ _ | refine blk_drew ?_ | refine blk_alloc ?_ _)); exact K_m1.out) hb_)
  clear K_m1
  have K_m1 := n_m1
  clear n_m1
  have n_m6 : Hid (w18.heap[w7.heap.size]? = some (.cells (cells m6) 27 (0, 0))) := Lib.hid (blk_below (by (with_reducible repeat (first | refine blk_drewN ?_ _ | refine blk_drew ?_ | refine blk_alloc ?_ _)); exact K_m6.out) hb_)
  clear K_m6
  have K_m6 := n_m6
  clear n_m6
  have n_m7 : Hid (w18.heap[w9.heap.size]? = some (.cells (cells m7) 27 (0, 0))) := Lib.hid (blk_below (by (with_reducible repeat (first | refine blk_drewN ?_ _ | refine blk_drew ?_ | refine blk_alloc ?_ _)); exact K_m7.out) hb_)
  clear K_m7
  have K_m7 := n_m7
  clear n_m7
  clear hb_
  go_wp2_with fail
  go_ret
  exact ⟨rfl, HB.out⟩
end Go.Proofs.YtjcppnleoahaiaaDoor.P
namespace Go.Proofs.YtjcppnleoahaiaaDoor.P
open Go.RowKit Go.Proofs.YtjcppnleoahaiaaDoorW.PrintWords Go.Proofs.YtjcppnleoahaiaaDoorW.PrintLast Go.Proofs.YtjcppnleoahaiaaDoorW.PrintMore
set_option linter.unusedVariables false
set_option linter.unusedSimpArgs false
theorem sameF_iff (m m' : Nat → Bool) : sameF m m' = true ↔ ∀ n, n < 4096 → m n = m' n := by
  unfold sameF
  rw [List.all_eq_true]
  constructor
  · intro h n hn
    have h1 := h (n / 64) (List.mem_range.2 (by omega))
    have h2 := word_inj (beq_iff_eq.1 h1) (n % 64) (Nat.mod_lt _ (by omega))
    rwa [show 64 * (n / 64) + n % 64 = n from Nat.div_add_mod n 64] at h2
  · intro h i hi
    rw [List.mem_range] at hi
    exact beq_iff_eq.2 (word_ext fun j hj => h _ (by omega))
theorem sameF_of {m m' : Nat → Bool} (h : ∀ n, m n = m' n) : sameF m m' = true := (sameF_iff m m').2 fun n _ => h n
theorem sameF_refl (m : Nat → Bool) : sameF m m = true := sameF_of fun _ => rfl
theorem Tabs.three {w : World} (h : Tabs w) : 3 ≤ w.heap.size := h.2.2
theorem same_is (m m' : Nat → Bool) (b : Bool) (h : sameF m m' = b) (w : World) :
    Calls Tryd.prog 28 #[.agg (cells m), .agg (cells m')] w fun e w' => e = .returned (.bool b) ∧ Below w.heap.size w w' := by
  rw [← h]; exact same_any m m' w
theorem subset_is (m m' : Nat → Bool) (b : Bool) (h : sameF (orF m m') m' = b) (w : World) :
    Calls Tryd.prog 33 #[.agg (cells m), .agg (cells m')] w fun e w' => e = .returned (.bool b) ∧ Below w.heap.size w w' := by
  rw [← h]; exact subset_any m m' w
theorem count_is (m : Nat → Bool) (n : Nat) (h : cnt m 4096 = n) (w : World) :
    Calls Tryd.prog 25 #[.agg (cells m)] w fun e w' => e = .returned (.int .i64 (n : Nat)) ∧ Below w.heap.size w w' := by
  rw [← h]; exact count_any m w
theorem count_nil (m : Nat → Bool) (h : ∀ n, m n = false) (w : World) :
    Calls Tryd.prog 25 #[.agg (cells m)] w fun e w' => e = .returned (.int .i64 0) ∧ Below w.heap.size w w' := by
  have e : cnt m 4096 = 0 := by
    have : ∀ n, sumN (fun j => (m j).toNat) n = 0 := fun n => by
      induction n with
      | zero => rfl
      | succ n ih => rw [sumN, ih]; simp [h]
    exact this 4096
  exact count_is m 0 e w
theorem has_is (m : Nat → Bool) (n : Int) (b : Bool) (h : hasI m n = b) (w : World) : Calls Tryd.prog 17 #[.agg (cells m), .int .i64 n] w fun e w' => e = .returned (.bool b) ∧ Below w.heap.size w w' := by
  rw [← h]; exact has_any m n w
def shortB (a b c : Nat) : Bool := decide (a ≤ 300 ∧ b ≤ 300 ∧ c ≤ 300)
theorem short_any (A0 : Option Addr) (c0 : Nat) (l0 : List Int) (A1 : Option Addr) (c1 : Nat) (l1 : List Int) (A2 : Option Addr) (c2 : Nat) (l2 : List Int) (b : Bool) (hb : shortB l0.length l1.length l2.length = b) (w : World) (hr0 : Kd.C (Kd.int .i64) w A0 l0.length l0) (hc0 : l0.length ≤ c0) (hr1 : Kd.C (Kd.int .i64) w A1 l1.length l1) (hc1 : l1.length ≤ c1) (hr2 : Kd.C (Kd.int .i64) w A2 l2.length l2) (hc2 : l2.length ≤ c2) :
    Calls Tryd.prog 23 #[.slice A0 l0.length c0, .slice A1 l1.length c1, .slice A2 l2.length c2] w fun e w' => e = .returned (.bool b) ∧ Below w.heap.size w w' := by
  refine (runnellaw1_short.calls A0 c0 l0 A1 c1 l1 A2 c2 l2 b w hr0 hc0 hr1 hc1 hr2 hc2 ?_).mono fun _ _ hh => ⟨hh.1, hh.2.below⟩
  rw [← hb]
  unfold runnellaw1_short.f shortB
  by_cases h0 : l0.length ≤ 300
  · rw [if_pos (by omega)]
    by_cases h1 : l1.length ≤ 300
    · rw [if_pos (by omega)]
      congr 1
      rw [decide_eq_decide]; omega
    · rw [if_neg (by omega)]
      congr 1
      rw [eq_comm, decide_eq_false_iff_not]; omega
  · rw [if_neg (by omega)]
    congr 1
    rw [eq_comm, decide_eq_false_iff_not]; omega
theorem of_one (n : Int) (w : World) : Calls Tryd.prog 10 #[.slice (some ⟨w.heap.size, 0, none⟩) 1 1] (w.alloc (.cells #[.int .i64 n] 3)) fun e w' => e = .returned (.agg (cells (ofF [n]))) ∧ Below (w.alloc (.cells #[.int .i64 n] 3)).heap.size (w.alloc (.cells #[.int .i64 n] 3)) w' :=
  of_any (some ⟨w.heap.size, 0, none⟩) 1 [n] _ (C_ints w [n] (by simp))
end Go.Proofs.YtjcppnleoahaiaaDoor.P
