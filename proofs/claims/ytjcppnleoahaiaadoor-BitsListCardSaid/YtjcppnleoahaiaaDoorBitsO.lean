/- bits.Set: what the laws' walks use. -/
import Derived.Test.YtjcppnleoahaiaaDoorBitsN
import Derived.Test.YtjcppnleoahaiaaDoorBitsM
import Derived.Test.YtjcppnleoahaiaaDoorBitsH
import Derived.Test.YtjcppnleoahaiaaDoorPf36
import Derived.Test.YtjcppnleoahaiaaDoorPf23
namespace Go.Proofs.YtjcppnleoahaiaaDoor.P
open Go.RowKit Go.Proofs.YtjcppnleoahaiaaDoorW.PrintWords Go.Proofs.YtjcppnleoahaiaaDoorW.PrintLast Go.Proofs.YtjcppnleoahaiaaDoorW.PrintMore
set_option linter.unusedVariables false
set_option linter.unusedSimpArgs false
theorem info27 (m : Nat → Bool) : (Tryd.prog.info? 27).map (·.size) = some (cells m).size := by rw [cells_size]; kernel_rfl
theorem noughts_cells (m : Nat → Bool) : noughts.size = (cells m).size := by rw [cells_size]; rfl
theorem load27 {w : World} {g : Nat} {m : Nat → Bool} (h : w.heap[g]? = some (.cells (cells m) 27 (0, 0))) : (loadVar 27 ⟨g, 0, none⟩).run Tryd.prog w = .ok (.agg (cells m)) w :=
  run_loadVar_row _ _ 27 27 (cells m) (0, 0) _ h Tryd.underlying27 rfl (info27 m)
theorem C_lit {α : Type} (d : Kd α) (W : World) (e : Nat) (xs : List α) (cs : List Value) (h : Reps (d.K (W.alloc (.cells cs.toArray e))) d.sz xs cs) (hn : xs.length ≤ 9223372036854775807) :
    d.C (W.alloc (.cells cs.toArray e)) (some ⟨W.heap.size, 0, none⟩) xs.length xs := by
  have h2 := World.ownsRow_lit (base := 0) (e := e) (size := d.sz) W cs.toArray xs.length (Nat.zero_le _) (by simpa [maxLen] using hn) (by simpa using h.1)
  obtain ⟨A, c, he, hr⟩ := own_reads_row (by simpa using h2) h rfl
  cases he
  exact hr
theorem reps_ints (w : World) : ∀ xs : List Int, Reps ((Kd.int .i64).K w) (Kd.int .i64).sz xs (xs.map (Value.int .i64))
  | [] => Reps.none _ _
  | x :: xs => Reps.front (R := (Kd.int .i64).K w) (size := (Kd.int .i64).sz) (p := x) (c := [Value.int .i64 x]) rfl rfl (reps_ints w xs) rfl
theorem C_ints (W : World) (xs : List Int) (hn : xs.length ≤ 9223372036854775807) : Kd.C (Kd.int .i64) (W.alloc (.cells (xs.map (Value.int .i64)).toArray 3)) (some ⟨W.heap.size, 0, none⟩) xs.length xs :=
  C_lit _ W 3 xs _ (reps_ints _ xs) hn
theorem run_alloc27 (w : World) : (Instr.alloc 27 true (.tuple #[])).run Tryd.prog w = .ok (.pointer (some ⟨w.heap.size, 0, none⟩)) (w.alloc (.cells noughts 27)) := by
  go_simp
  rfl
/-- A variable that a call's result is laid into. -/
theorem wpList_var27 {ops : Array Oper} {rest : List Oper} {oa os : Oper} {a : Act} {w : World} {Q : Exit → Act → World → Prop} {d : Tmp} (hga : oa.guard = none) (hda : oa.dst = some d) (ha : oa.op = .alloc 27) (hgs : os.guard = none) (hds : os.dst = none) (x : Operand) (hs : os.op = .store 27 (.tmp d) x)
    (m : Nat → Bool) (hx : (a.put (some d) (.pointer (some ⟨w.heap.size, 0, none⟩))).eval x = .agg (cells m)) (hd : (a.put (some d) (.pointer (some ⟨w.heap.size, 0, none⟩))).eval (.tmp d) = .pointer (some ⟨w.heap.size, 0, none⟩))
    (h : ∀ w' : World, w'.heap[w.heap.size]? = some (.cells (cells m) 27 (0, 0)) → Below w.heap.size w w' → wpList Tryd.prog ops Q rest (a.put (some d) (.pointer (some ⟨w.heap.size, 0, none⟩))) w') : wpList Tryd.prog ops Q (oa :: os :: rest) a w := by
  refine Kd.event_run hga (v := .pointer (some ⟨w.heap.size, 0, none⟩)) (w1 := w.alloc (.cells noughts 27)) ?_ ?_
  · unfold execOp
    simp only [ha, Sem.run_bind, run_alloc27, Result.andThen_ok, Sem.run_pure]
  · rw [hda]
    refine wpList_store_row hgs 27 (.tmp d) x hs w.heap.size (cells m) hd hx 27 noughts (heap_alloc_new w _) (info27 m) (noughts_cells m) (cells_one m) ?_
    rw [hds]
    exact h _ (blk_row (heap_alloc_new w _)) (below_row (below_alloc (Below.refl _ _) _) (Nat.le_refl _))
/-! ### sameInts: plain -/
theorem wrap_small (i n : Nat) (h : i < n) (hn : n ≤ 1000000) : wrap64 ((i : Int) + 1) = ((i + 1 : Nat) : Int) := by unfold wrap64; omega
theorem ints_end (a b : List Int) (k i : Nat) (h : ¬ i < a.length) : runnellaw1_sameInts.l0 (k + 1) a b i = some true := by
    simp only [runnellaw1_sameInts.l0]
    have c1 : ¬ (i : Int) < (a.length : Int) := by omega
    rw [if_neg c1]
theorem ints_step (a b : List Int) (k i : Nat) (hl : i < a.length) (hl' : i < b.length) : runnellaw1_sameInts.l0 (k + 1) a b i = if a[i] = b[i] then runnellaw1_sameInts.l0 k a b (wrap64 ((i : Int) + 1)) else some false := by
    simp only [runnellaw1_sameInts.l0]
    have ra : rd a i = a[i] := by simp [rd, hl]
    have rb : rd b i = b[i] := by simp [rd, hl']
    have c1 : (i : Int) < (a.length : Int) := by omega
    have c2 : (0 : Int) ≤ (i : Int) := by omega
    have c3 : (i : Int) < (b.length : Int) := by omega
    rw [if_pos c1, if_pos c2, if_pos c3, ra, rb]
theorem ints_loop (a b : List Int) (hab : a.length = b.length) (hn : a.length ≤ 1000000) (d : Nat) : ∀ (k : Nat) (i : Nat), i ≤ a.length → a.length - i = d → d < k →
    runnellaw1_sameInts.l0 k a b i = some (decide (a.drop i = b.drop i)) := by
  induction d with
  | zero =>
    intro k i hi hd hk
    obtain ⟨k, rfl⟩ : ∃ m, k = m + 1 := ⟨k - 1, by omega⟩
    rw [ints_end a b k i (by omega), List.drop_of_length_le (by omega : a.length ≤ i), List.drop_of_length_le (by omega : b.length ≤ i)]
    rfl
  | succ d ih =>
    intro k i hi hd hk
    obtain ⟨k, rfl⟩ : ∃ m, k = m + 1 := ⟨k - 1, by omega⟩
    have hl : i < a.length := by omega
    have hl' : i < b.length := by omega
    rw [ints_step a b k i hl hl', List.drop_eq_getElem_cons hl, List.drop_eq_getElem_cons hl']
    by_cases h : a[i] = b[i]
    · rw [if_pos h, wrap_small i a.length hl hn, ih k (i + 1) (by omega) (by omega) (by omega)]
      exact congrArg some (decide_eq_decide.2 ⟨fun e => by rw [h, e], fun e => (List.cons.inj e).2⟩)
    · rw [if_neg h]
      exact congrArg some (decide_eq_false (fun e => h (List.cons.inj e).1)).symm
theorem ints_f (a b : List Int) (hn : a.length ≤ 1000000) : runnellaw1_sameInts.f (a.length + 1) a b = some (decide (a = b)) := by
  unfold runnellaw1_sameInts.f
  by_cases h : a.length = b.length
  · rw [if_pos (by omega)]
    have := ints_loop a b h hn a.length (a.length + 1) 0 (by omega) (by omega) (by omega)
    simpa using this
  · rw [if_neg (by omega)]
    have : a ≠ b := fun e => h (by rw [e])
    simp [this]
theorem ints_any (A0 : Option Addr) (c0 : Nat) (a : List Int) (A1 : Option Addr) (c1 : Nat) (b : List Int) (w : World) (hr0 : Kd.C (Kd.int .i64) w A0 a.length a) (hc0 : a.length ≤ c0) (hr1 : Kd.C (Kd.int .i64) w A1 b.length b) (hc1 : b.length ≤ c1) (hn : a.length ≤ 1000000) :
    Calls Tryd.prog 36 #[.slice A0 a.length c0, .slice A1 b.length c1] w fun e w' => e = .returned (.bool (decide (a = b))) ∧ Below w.heap.size w w' :=
  (runnellaw1_sameInts.calls (a.length + 1) A0 c0 a A1 c1 b _ w hr0 hc0 hr1 hc1 (ints_f a b hn)).mono fun _ _ hh => ⟨hh.1, hh.2.below⟩
theorem listF_len (m : Nat → Bool) : (listF m).length ≤ 4096 := listTo_len m 4096
theorem ints_same (A0 : Option Addr) (c0 : Nat) (a : List Int) (A1 : Option Addr) (c1 : Nat) (b : List Int) (w : World) (hr0 : Kd.C (Kd.int .i64) w A0 a.length a) (hc0 : a.length ≤ c0) (hr1 : Kd.C (Kd.int .i64) w A1 b.length b) (hc1 : b.length ≤ c1) (h : a = b) (hn : a.length ≤ 1000000 := by exact Nat.le_trans (listF_len _) (by omega)) :
    Calls Tryd.prog 36 #[.slice A0 a.length c0, .slice A1 b.length c1] w fun e w' => e = .returned (.bool true) ∧ Below w.heap.size w w' := by
  have := ints_any A0 c0 a A1 c1 b w hr0 hc0 hr1 hc1 hn
  rw [decide_eq_true h] at this
  exact this
theorem text_is (m : Nat → Bool) (t : List UInt8) (h : textF m = t) (w : World) (hT : Tabs w) : Calls Tryd.prog 21 #[.agg (cells m)] w fun e w' => e = .returned (.string ⟨t.toArray⟩) ∧ Below w.heap.size w w' := by
  rw [← h]
  exact text_any m w hT
theorem Tabs.pos {w : World} (h : Tabs w) : 0 < w.heap.size := by have := h.2.2; omega
theorem next_is (m : Nat → Bool) (n v : Int) (h : nextF m n = v) (w : World) (hn : n ≤ 9223372036854775807) (hT : Tabs w) : Calls Tryd.prog 19 #[.agg (cells m), .int .i64 n] w fun e w' => e = .returned (.int .i64 v) ∧ Below w.heap.size w w' := by
  rw [← h]
  exact next_call m n w hn hT.1 hT.pos
theorem list_T (m : Nat → Bool) (w : World) (hT : Tabs w) :
    Calls Tryd.prog 35 #[.agg (cells m)] w fun e w' => ∃ v_, e = .returned v_ ∧ Kd.R (Kd.int .i64) 3 w' w.heap.size (fun _ => True) v_ (listF m) ∧ Below w.heap.size w w' := list_any m w hT.1 hT.pos
/-- A set is loaded (behind a guard that holds, too). -/
theorem wpList_load27 {ops : Array Oper} {rest : List Oper} {o : Oper} {a : Act} {w : World} {Q : Exit → Act → World → Prop} (hw : Region.wanted o (yielded ops a.tmps) = true) (x : Operand) (ho : o.op = .load 27 x)
    (g : Nat) (hx : a.eval x = .pointer (some ⟨g, 0, none⟩)) (m : Nat → Bool) (hg : w.heap[g]? = some (.cells (cells m) 27 (0, 0))) (h : wpList Tryd.prog ops Q rest (a.put o.dst (.agg (cells m))) w) : wpList Tryd.prog ops Q (o :: rest) a w :=
  wpList_step fun K hK => by
    rw [if_pos hw]
    exact wp_load_row 27 x ho g hx 27 (cells m) (0, 0) _ hg Tryd.underlying27 rfl (info27 m) (hK _ _ h)
end Go.Proofs.YtjcppnleoahaiaaDoor.P
