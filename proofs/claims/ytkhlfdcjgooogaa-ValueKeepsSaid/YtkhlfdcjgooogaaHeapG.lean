/- runnelref9.Heap: Cells, New: their contracts. -/
import Derived.Test.YtkhlfdcjgooogaaHeapF
import Derived.LoopTactic
namespace Go.Proofs.Ytkhlfdcjgooogaa.P
open Go.RowKit Go.Proofs.YtkhlfdcjgooogaaW.PrintWords Go.Proofs.YtkhlfdcjgooogaaW.PrintLast Go.Proofs.YtkhlfdcjgooogaaW.PrintMore
set_option linter.unusedVariables false
set_option linter.unusedSimpArgs false
theorem ret_int {k : IntKind} {a b : Int} (h : a = b) : Ending.returned (.int k a) = .returned (.int k b) := by rw [h]
theorem cellsOf_nonneg : ∀ L : List (List Int), 0 ≤ cellsOf L
  | [] => by simp [cellsOf]
  | l :: L => by have := cellsOf_nonneg L; simp [cellsOf]; omega
theorem cellsOf_app : ∀ (L M : List (List Int)), cellsOf (L ++ M) = cellsOf L + cellsOf M
  | [], M => by simp [cellsOf]
  | l :: L, M => by simp [cellsOf, cellsOf_app L M]; omega
theorem cellsOf_len : ∀ L : List (List Int), (L.length : Int) ≤ cellsOf L
  | [] => by simp [cellsOf]
  | l :: L => by have := cellsOf_len L; simp [cellsOf]; omega
theorem cellsOf_at (L : List (List Int)) (k : Nat) : ((L.getD k []).length : Int) ≤ cellsOf L := by
  by_cases h : k < L.length
  · have e : L = L.take k ++ L[k] :: L.drop (k + 1) := by simp
    have e2 := congrArg cellsOf e
    rw [cellsOf_app] at e2
    have h1 := cellsOf_nonneg (L.take k)
    have h2 := cellsOf_nonneg (L.drop (k + 1))
    simp only [cellsOf] at e2
    rw [getD_lt _ _ h]
    omega
  · have e : L.getD k [] = [] := by simp [List.getD_eq_getElem?_getD, List.getElem?_eq_none (Nat.le_of_not_lt h)]
    have := cellsOf_nonneg L
    rw [e]
    simpa
theorem cellsOf_take (L : List (List Int)) (k : Nat) (h : k < L.length) : cellsOf (L.take (k + 1)) = cellsOf (L.take k) + 1 + (L.getD k []).length := by
  rw [List.take_succ_eq_append_getElem h, cells_snoc, getD_lt _ _ h]
  omega
theorem cellsOf_take_le (L : List (List Int)) (k : Nat) : cellsOf (L.take k) ≤ cellsOf L := by
  have e := congrArg cellsOf (List.take_append_drop k L)
  rw [cellsOf_app] at e
  have := cellsOf_nonneg (L.drop k)
  omega
set_option maxRecDepth 100000 in
set_option maxHeartbeats 2000000 in
theorem rcells {B g c : Nat} {L : List (List Int)} {ds qs : Nat → Nat} {w : World} (hB : w.heap[B]? = some (.cells #[.slice (some ⟨g, 0, none⟩) L.length c] 51 (0, 0))) (hr : ∀ j, j < L.length → w.cell? ⟨g, j, none⟩ = some (.slice (some ⟨ds j, 0, none⟩) (L.getD j []).length (qs j))) (hc : cellsOf L ≤ 262144) :
    Calls Try.prog 25 #[.pointer (some ⟨B, 0, none⟩)] w fun e w' => e = .returned (.int .i64 (cellsOf L)) ∧ w' = w := by
  have cB := (blk_cell hB 0).trans rfl
  have hl := cellsOf_len L
  have HR := Lib.hid hr
  clear hB hr
  go_enter Try.func25, Try.ntmps25
  go_wp2_with fail
  go_loop [3, 4] (fun s i => ∃ k : Nat, k ≤ L.length ∧ i = .int .i64 k ∧ s = .int .i64 (cellsOf (L.take k))) (fun _ i => L.length - (intOf i).toNat)
  case atStart => exact ⟨0, Nat.zero_le _, rfl, rfl⟩
  case round =>
    obtain ⟨k, hk, rfl, rfl⟩ := hrel
    have h1 := cellsOf_take_le L k
    have h0 := cellsOf_nonneg (L.take k)
    have h2 := cellsOf_at L k
    by_cases hlt : k < L.length
    · obtain ⟨m, hm⟩ : ∃ m, m = (L.getD k []).length := ⟨_, rfl⟩
      obtain ⟨d, hd⟩ : ∃ d, d = ds k := ⟨_, rfl⟩
      obtain ⟨q, hq⟩ : ∃ q, q = qs k := ⟨_, rfl⟩
      have hcell := HR.out k hlt
      have ht := cellsOf_take L k hlt
      rw [← hm] at hcell ht h2
      rw [← hd, ← hq] at hcell
      have HT := Lib.hid ht
      clear ht hm hd hq
      go_wp2_with fail
      go_round
      case rel => exact ⟨k + 1, by omega, by go_num, by rw [HT.out]⟩
      case measure => simp [intOf]; omega
    · have e : L.take k = L := List.take_of_length_le (by omega)
      have E := Lib.hid e
      clear e
      go_wp2_with fail
      go_ret
      exact ⟨ret_int (by rw [E.out]), rfl⟩
set_option maxRecDepth 100000 in
set_option maxHeartbeats 2000000 in
theorem rcells0 {B c : Nat} {A : Option Addr} {w : World} (hB : w.heap[B]? = some (.cells #[.slice A 0 c] 51 (0, 0))) :
    Calls Try.prog 25 #[.pointer (some ⟨B, 0, none⟩)] w fun e w' => e = .returned (.int .i64 0) ∧ w' = w := by
  have cB := (blk_cell hB 0).trans rfl
  clear hB
  go_enter Try.func25, Try.ntmps25
  go_wp2_with fail
  go_loop [3, 4] (fun s i => i = .int .i64 0 ∧ s = .int .i64 0) (fun _ i => 0)
  case atStart => exact ⟨rfl, rfl⟩
  case round =>
    obtain ⟨rfl, rfl⟩ := hrel
    go_wp2_with fail
    go_ret
    exact ⟨rfl, rfl⟩
theorem rcells_blk {B : Nat} {ok : Nat → Prop} {v : Value} {gs : List (Nat × Nat)} {L : List (List Int)} {w : World} (hB : w.heap[B]? = some (.cells #[v] 51 (0, 0))) (hA : Arrs w ok v gs L) (hc : cellsOf L ≤ 262144) :
    Calls Try.prog 25 #[.pointer (some ⟨B, 0, none⟩)] w fun e w' => e = .returned (.int .i64 (cellsOf L)) ∧ w'.heap.size = w.heap.size ∧ w'.heap[B]? = some (.cells #[v] 51 (0, 0)) ∧ Chg (· = B) w w' := by
  have key : Calls Try.prog 25 #[.pointer (some ⟨B, 0, none⟩)] w fun e w' => e = .returned (.int .i64 (cellsOf L)) ∧ w' = w := by
    obtain ⟨A, c, rfl, hr⟩ := hA.get
    rcases hr with h0 | ⟨g, rfl, hg, hr⟩
    · have e : L = [] := List.length_eq_zero_iff.1 h0
      subst e
      exact rcells0 hB
    · refine rcells (ds := fun j => (gs.getD j (0, 0)).1) (qs := fun j => (gs.getD j (0, 0)).2) hB (fun j hj => ?_) hc
      have hj' : j < gs.length := hA.len ▸ hj
      rw [getD_lt _ _ hj, getD_lt _ _ hj']
      exact hr j hj' hj
  refine key.mono fun e w' h => ?_
  obtain ⟨he, hw⟩ := h
  subst hw
  exact ⟨he, rfl, hB, Chg.refl _ _⟩
set_option maxRecDepth 100000 in
set_option maxHeartbeats 2000000 in
theorem rnew_size (B : Nat) (n : Int) (w : World) (h : n < 0 ∨ 65536 < n) :
    Calls Try.prog 40 #[.pointer (some ⟨B, 0, none⟩), .int .i64 n] w fun e w' => e = .returned (.tuple #[.agg #[.int .i64 0, .int .i64 0], .int .i64 4, .bool true]) ∧ Below w.heap.size w w' := by
  by_cases h0 : n < 0
  · have d0 : decide (n < 0) = true := by simp [h0]
    clear h h0
    go_enter Try.func40, Try.ntmps40
    go_wp2_with fail
    refine bodyPost_ret (results_ctt rfl _ _ w.heap.size 27 #[.int .i64 0, .int .i64 0] (0, 0) _ rfl (heap_alloc_new w _) Try.underlying27 rfl (by kernel_rfl)) rfl ?_
    exact ⟨rfl, below_alloc (Below.refl _ _) _⟩
  · have d0 : decide (n < 0) = false := by simp; omega
    have d1 : decide (65536 < n) = true := by simp; omega
    clear h h0
    go_enter Try.func40, Try.ntmps40
    go_wp2_with fail
    refine bodyPost_ret (results_ctt rfl _ _ w.heap.size 27 #[.int .i64 0, .int .i64 0] (0, 0) _ rfl (heap_alloc_new w _) Try.underlying27 rfl (by kernel_rfl)) rfl ?_
    exact ⟨rfl, below_alloc (Below.refl _ _) _⟩
set_option maxRecDepth 100000 in
set_option maxHeartbeats 2000000 in
theorem rnew_full {B : Nat} {ok : Nat → Prop} {v : Value} {gs : List (Nat × Nat)} {L : List (List Int)} (n : Int) {w : World} (hB : w.heap[B]? = some (.cells #[v] 51 (0, 0))) (hA : Arrs w ok v gs L) (h0 : 0 ≤ n) (h1 : n ≤ 65536) (hx1 : cellsOf L ≤ 262144) (hr : 262144 < cellsOf L + n + 1) :
    Calls Try.prog 40 #[.pointer (some ⟨B, 0, none⟩), .int .i64 n] w fun e w' => e = .returned (.tuple #[.agg #[.int .i64 0, .int .i64 0], .int .i64 0, .bool false]) ∧ w'.heap[B]? = some (.cells #[v] 51 (0, 0)) ∧ Chg (· = B) w w' := by
  have d0 : decide (n < 0) = false := by simp; omega
  have d1 : decide (65536 < n) = false := by simp; omega
  have d2 : decide (262144 < cellsOf L + n + 1) = true := by simp; omega
  have hl0 := cellsOf_nonneg L
  have hlt := blk_lt hB
  have hB1 := Lib.hid (blk_alloc hB (.cells #[.int .i64 0, .int .i64 0] 27))
  have hR1 := Lib.hid (heap_alloc_new w (.cells #[.int .i64 0, .int .i64 0] 27))
  have hne : w.heap.size ≠ B := by omega
  have hA1 := hA.step (W' := w.alloc (.cells #[.int .i64 0, .int .i64 0] 27)) (fun k hk _ => (below_alloc (Below.refl _ _) _).block k hk)
  clear hB hA
  go_enter Try.func40, Try.ntmps40
  go_wp2_with (go_at_call 25; refine (rcells_blk hB1.out hA1 hx1).mono ?_; rintro e w2 ⟨rfl, hz, hB2, hc⟩; have hsz := Lib.hid hz; have hR3 := Lib.hid ((hc.block _ (by simp) hne).trans hR1.out); have HB3 := Lib.hid hB2; have HC := Lib.hid hc; clear hz hB2 hc; have c0 : w2.cell? ⟨w.heap.size, 0, none⟩ = some (.int .i64 0) := (blk_cell hR3.out 0).trans rfl; have c1 : w2.cell? ⟨w.heap.size, 1, none⟩ = some (.int .i64 0) := (blk_cell hR3.out 1).trans rfl; have f0 := blk_frozen hR3.out 0; have f1 := blk_frozen hR3.out 1)
  refine bodyPost_ret (results_ctt rfl _ _ w.heap.size 27 #[.int .i64 0, .int .i64 0] (0, 0) _ rfl (blk_put (blk_put hR3.out 0 _ rfl) 1 _ rfl) Try.underlying27 rfl (by kernel_rfl)) rfl ?_
  refine ⟨rfl, ?_, ?_⟩
  · exact (Below.heap_setCell _ _ _ B (Ne.symm hne)).trans ((Below.heap_setCell _ _ _ B (Ne.symm hne)).trans HB3.out)
  · exact ((((Chg.of (below_alloc (Below.refl _ _) _)).trans HC.out (fun _ _ h => h))).set _ _ (fun h => absurd h (Nat.lt_irrefl _))).set _ _ (fun h => absurd h (Nat.lt_irrefl _))
set_option maxRecDepth 100000 in
set_option maxHeartbeats 2000000 in
/-- New, of an array. -/
theorem rnew_is (B : Nat) (v : Value) (gs : List (Nat × Nat)) (ok : Nat → Prop) (L : List (List Int)) (n : Int) (w : World) (hB : w.heap[B]? = some (.cells #[v] 51 (0, 0))) (hA : Arrs w ok v gs L) (hok : ok B) (h0 : 0 ≤ n) (h1 : n ≤ 65536) (hr : cellsOf L + n + 1 ≤ 262144) :
    Calls Try.prog 40 #[.pointer (some ⟨B, 0, none⟩), .int .i64 n] w fun e w' => e = .returned (.tuple #[.agg #[.int .i64 3, .int .i64 (L.length + 1)], .int .i64 0, .bool true]) ∧ HR w' B (fun k => ok k ∨ (w.heap.size ≤ k ∧ k < w'.heap.size)) (L ++ [List.replicate n.toNat 0]) ∧ Chg ok w w' := by
  have d0 : decide (n < 0) = false := by simp; omega
  have d1 : decide (65536 < n) = false := by simp; omega
  have d2 : decide (262144 < cellsOf L + n + 1) = false := by simp; omega
  have hlt := blk_lt hB
  have hB1 := Lib.hid (blk_alloc hB (.cells #[.int .i64 0, .int .i64 0] 27))
  have hR1 := Lib.hid (heap_alloc_new w (.cells #[.int .i64 0, .int .i64 0] 27))
  have hne : w.heap.size ≠ B := by omega
  have hmk := print_make_int (P := Try.prog) 70 3 (.int .i64 0) 8 Try.underlying70 (by kernel_rfl) rfl (by decide) n h0 (by omega)
  have hl := cellsOf_len L
  have hl0 := cellsOf_nonneg L
  have hA1 := hA.step (W' := w.alloc (.cells #[.int .i64 0, .int .i64 0] 27)) (fun k hk _ => (below_alloc (Below.refl _ _) _).block k hk)
  clear hB hA
  go_enter Try.func40, Try.ntmps40
  go_wp2_with (go_at_call 25; refine (rcells_blk hB1.out hA1 (by omega)).mono ?_; rintro e w1 ⟨rfl, hz, hB2, hc⟩; have hsz := Lib.hid hz; have hR2 := Lib.hid ((hc.block _ (by simp) hne).trans hR1.out); have HB2 := Lib.hid hB2; have HC := Lib.hid hc; clear hz hB2 hc)
  have hA2 := Lib.hid (hA1.step' (W' := w1) (fun k hk ho => HC.out.block k hk (fun e => by have h := hA1.ne hB1.out (by decide) (by decide); rcases ho with ho | ho; exact h.1 (e ▸ ho); exact h.2 (e ▸ ho))))
  have k0 : w1.drew.cell? ⟨B, 0, none⟩ = some v := (blk_cell HB2.out 0).trans rfl
  have hltB := blk_lt HB2.out
  have hsM : Hid ((w1.drew.alloc (.cells (madeCells #[.int .i64 0] n.toNat) 3)).heap.size = w1.heap.size + 1) := Lib.hid (by simp)
  clear d0 d1 d2
  refine start_ (n := 12) (S := fun w' => w'.cell? ⟨B, 0, none⟩ = some v) (ds := [8, 11]) #[false, false, false, false, false, false, false, false, false, false, false, false] (by kernel_rfl) rfl rfl (k0) (fun hHeld => ?_)
  refine pure_ (i := 0) (N := some 21) (v := ?_) (a' := ?_) #[true, false, false, false, false, false, false, false, false, false, false, false] rfl rfl (by kernel_rfl) (fun _ _ _ h => h) (Or.inl ⟨by rfl, ?_⟩) ?_ ?_
  rotate_left
  · intro w'
    go_simp
    with_reducible rfl
  rotate_left
  · simp only [Act.put, List.setIfInBounds_toArray, List.set_cons_zero, List.set_cons_succ, i64_w, i32_w]
    rfl
  refine pure_ (i := 1) (N := some 22) (v := ?_) (a' := ?_) #[true, true, false, false, false, false, false, false, false, false, false, false] rfl rfl (by kernel_rfl) (fun _ _ _ h => h) (Or.inl ⟨by rfl, ?_⟩) ?_ ?_
  rotate_left
  · intro w'
    go_simp
    with_reducible rfl
  rotate_left
  · simp only [Act.put, List.setIfInBounds_toArray, List.set_cons_zero, List.set_cons_succ, i64_w, i32_w]
    rfl
  refine pure_ (i := 2) (N := some 23) (v := ?_) (a' := ?_) #[true, true, true, false, false, false, false, false, false, false, false, false] rfl rfl (by kernel_rfl) (fun _ _ _ h => h) (Or.inl ⟨by rfl, ?_⟩) ?_ ?_
  rotate_left
  · intro w'
    go_simp
    with_reducible rfl
  rotate_left
  · simp only [Act.put, List.setIfInBounds_toArray, List.set_cons_zero, List.set_cons_succ, i64_w, i32_w]
    rfl
  refine pure_ (i := 3) (N := some 24) (v := ?_) (a' := ?_) #[true, true, true, true, false, false, false, false, false, false, false, false] rfl rfl (by kernel_rfl) (fun _ _ _ h => h) (Or.inl ⟨by rfl, ?_⟩) ?_ ?_
  rotate_left
  · intro w'
    go_simp
    with_reducible rfl
  rotate_left
  · simp only [Act.put, List.setIfInBounds_toArray, List.set_cons_zero, List.set_cons_succ, i64_w, i32_w]
    rfl
  refine pure_ (i := 5) (N := some 26) (v := ?_) (a' := ?_) #[true, true, true, true, false, true, false, false, false, false, false, false] rfl rfl (by kernel_rfl) (fun _ _ _ h => h) (Or.inl ⟨by rfl, ?_⟩) ?_ ?_
  rotate_left
  · intro w'
    go_simp
    with_reducible rfl
  rotate_left
  · simp only [Act.put, List.setIfInBounds_toArray, List.set_cons_zero, List.set_cons_succ, i64_w, i32_w]
    rfl
  refine take_ (i := 4) (N := some 25) (v := ?_) (a' := ?_) #[true, true, true, true, true, true, false, false, false, false, false, false] rfl rfl (by kernel_rfl) (fun _ _ _ h => h) (Or.inl ⟨by rfl, ?_⟩) hHeld ?_ ?_
  rotate_left
  · intro w' s0
    go_simp
    with_reducible rfl
  rotate_left
  · simp only [Act.put, List.setIfInBounds_toArray, List.set_cons_zero, List.set_cons_succ, i64_w, i32_w]
    rfl
  refine one_ (i := 6) (N := some 27) #[true, true, true, true, true, true, true, false, false, false, false, false] rfl rfl (by kernel_rfl) (by decide) (fun K hK => ?_)
  refine value_ (w1 := ?_) (v := ?_) (by rfl) rfl ?_ ?_
  rotate_left 2
  · go_simp
    constructor
    · rfl
    · rfl
  refine hK.out _ _ (cell_old hHeld) (fun hHeld => ?_)
  clear hK K
  refine norm_ (a' := ?_) ?_ ?_
  rotate_left
  · show Act.put _ (some 27) _ = _
    simp only [Act.put, List.setIfInBounds_toArray, List.set_cons_zero, List.set_cons_succ, i64_w, i32_w]
    rfl
  refine one_ (i := 7) (N := some 28) #[true, true, true, true, true, true, true, true, false, false, false, false] rfl rfl (by kernel_rfl) (by decide) (fun K hK => ?_)
  refine value_ (w1 := ?_) (v := ?_) (by rfl) rfl ?_ ?_
  rotate_left 2
  · go_simp
    constructor
    · rfl
    · rfl
  refine hK.out _ _ (cell_old hHeld) (fun hHeld => ?_)
  clear hK K
  refine norm_ (a' := ?_) ?_ ?_
  rotate_left
  · show Act.put _ (some 28) _ = _
    simp only [Act.put, List.setIfInBounds_toArray, List.set_cons_zero, List.set_cons_succ, i64_w, i32_w]
    rfl
  refine last_ (i := 8) (N := some 29) #[true, true, true, true, true, true, true, true, true, false, false, false] rfl rfl (by kernel_rfl) (by decide) (fun K hK => ?_)
  refine step_append_cells (w0 := w1.drew.alloc (.cells (madeCells #[.int .i64 0] n.toNat) 3)) 0 (by rfl) (.tmp 25) (.tmp 28) 40 70 (.slice none 0 0) 1 24 (by rfl) Try.underlying40 (by kernel_rfl) rfl (by decide) (by decide) v L.length (rows gs L) [.slice (some ⟨w1.heap.size, 0, none⟩) n.toNat n.toNat] (by rfl) (by rw [hsM.out]; rfl) rfl (by simp [Value.oneCell']) (hA2.out.own.drew.alloc _) (Below.refl _ _) (Nat.zero_le _) (by omega) ?_
  intro v1 w3 hown hbel hgr hat
  obtain ⟨A1, cp1, rfl⟩ := own_slice hown
  have HH := Lib.hid (And.intro hown (And.intro hbel (And.intro hgr hat)))
  clear hown hbel hgr hat
  refine hK.out _ _ ?_
  clear hK K
  refine norm_ (a' := ?_) ?_ ?_
  rotate_left
  · show Act.put _ (some 29) _ = _
    simp only [Act.put, List.setIfInBounds_toArray, List.set_cons_zero, List.set_cons_succ, i64_w, i32_w]
    rfl
  refine pure_ (i := 9) (N := some 30) (v := ?_) (a' := ?_) #[true, true, true, true, true, true, true, true, true, true, false, false] rfl rfl (by kernel_rfl) (fun _ _ _ h => h) (Or.inl ⟨by rfl, ?_⟩) ?_ ?_
  rotate_left
  · intro w'
    go_simp
    with_reducible rfl
  rotate_left
  · simp only [Act.put, List.setIfInBounds_toArray, List.set_cons_zero, List.set_cons_succ, i64_w, i32_w]
    rfl
  refine pure_ (i := 10) (N := some 31) (v := ?_) (a' := ?_) #[true, true, true, true, true, true, true, true, true, true, true, false] rfl rfl (by kernel_rfl) (fun _ _ _ h => h) (Or.inl ⟨by rfl, ?_⟩) ?_ ?_
  rotate_left
  · intro w'
    go_simp
    with_reducible rfl
  rotate_left
  · simp only [Act.put, List.setIfInBounds_toArray, List.set_cons_zero, List.set_cons_succ, i64_w, i32_w]
    rfl
  refine last_ (i := 11) (N := none) #[true, true, true, true, true, true, true, true, true, true, true, true] rfl rfl (by kernel_rfl) (by decide) (fun K hK => ?_)
  have hB5 : w3.heap[B]? = some (.cells #[v] 51 (0, 0)) := (HH.out.2.2.1.block B (by simp; omega) (own_ne70 hA2.out.own HB2.out (by decide))).trans ((below_alloc (below_drew (Below.refl _ _)) _).block B (by omega) |>.trans HB2.out)
  have cB := blk_cell hB5 0
  have fB := blk_frozen hB5 0
  refine skip_ (w1 := ?_) (by rfl) rfl ?_ ?_
  rotate_left
  · go_simp
    rfl
  refine hK.out _ _ ?_
  clear hK K
  refine done_ (by kernel_rfl) ?_
  obtain ⟨w4, hw4⟩ : ∃ w4, w4 = w3.setCell ⟨B, 0, none⟩ (.slice A1 (L.length + 1) cp1) := ⟨_, rfl⟩
  rw [← hw4]
  have hR3 : w3.heap[w.heap.size]? = some (.cells #[.int .i64 0, .int .i64 0]  27 (0, 0)) := (HH.out.2.2.1.block _ (by rw [hsM.out, hsz.out]; simp; omega) (own_ne70 hA2.out.own hR2.out (by decide))).trans (((below_alloc (below_drew (Below.refl _ _)) _).block _ (by rw [hsz.out]; simp)).trans hR2.out)
  have HW := Lib.hid hw4
  have hB6 : Hid (w4.heap[B]? = some (.cells #[.slice A1 (L.length + 1) cp1] 51 (0, 0))) := Lib.hid (by rw [hw4]; exact blk_put hB5 0 _ rfl)
  have hR4 : Hid (w4.heap[w.heap.size]? = some (.cells #[.int .i64 0, .int .i64 0]  27 (0, 0))) := Lib.hid (by rw [hw4]; exact (Below.heap_setCell _ _ _ _ hne).trans hR3)
  have HB5 := Lib.hid hB5
  have HR3 := Lib.hid hR3
  clear cB fB hw4 hB5 hR3
  have c0 : w4.cell? ⟨w.heap.size, 0, none⟩ = some (.int .i64 0) := (blk_cell hR4.out 0).trans rfl
  have c1 : w4.cell? ⟨w.heap.size, 1, none⟩ = some (.int .i64 0) := (blk_cell hR4.out 1).trans rfl
  have f0 := blk_frozen hR4.out 0
  have f1 := blk_frozen hR4.out 1
  have cB : w4.cell? ⟨B, 0, none⟩ = some (.slice A1 (L.length + 1) cp1) := (blk_cell hB6.out 0).trans rfl
  go_wp2_with fail
  refine bodyPost_ret (results_ctt rfl _ _ w.heap.size  27 #[.int .i64 3, .int .i64 (L.length + 1)] (0, 0) _ rfl (blk_put (blk_put hR4.out 0 _ rfl) 1 _ rfl) Try.underlying27 rfl (by kernel_rfl)) rfl ?_
  refine ⟨rfl, ?_, ?_⟩
  · have HM : Arrs (w1.drew.alloc (.cells (madeCells #[.int .i64 0] n.toNat) 3)) ok v gs L := hA2.out.step (fun k hk _ => (below_alloc (below_drew (Below.refl _ _)) _).block k hk)
    have hg : (w1.drew.alloc (.cells (madeCells #[.int .i64 0] n.toNat) 3)).heap[w1.heap.size]? = some (.cells (madeCells #[.int .i64 0] n.toNat) 3 (0, 0)) := heap_alloc_new w1.drew _
    have hcu : (madeCells #[.int .i64 0] n.toNat).toList.take (List.replicate n.toNat (0 : Int)).length = ints (List.replicate n.toNat 0) := by
      rw [toList_madeCells_one]
      simp [ints]
    have hgn : w1.heap.size ∉ gs.map Prod.fst := fun hm => by
      obtain ⟨j, hj, e⟩ := List.getElem_of_mem hm
      have hj' : j < gs.length := by simpa using hj
      obtain ⟨_, cur, h3, _⟩ := hA2.out.at_ j hj' (hA2.out.len ▸ hj')
      have h := blk_lt h3
      have e' : gs[j].1 = w1.heap.size := by simpa using e
      omega
    have HO : w3.ownsRow 0 70 1 (.slice A1 (L.length + 1) cp1) (L.length + 1) (rows gs L ++ [.slice (some ⟨w1.heap.size, 0, none⟩) (List.replicate n.toNat (0 : Int)).length n.toNat]) := by
      rw [List.length_replicate]
      exact HH.out.1
    have h3 : Arrs w3 (fun k => ok k ∨ (w.heap.size ≤ k ∧ k < w3.heap.size)) (.slice A1 (L.length + 1) cp1) (gs ++ [(w1.heap.size, n.toNat)]) (L ++ [List.replicate n.toNat 0]) := arrs_new HM hg hcu hgn HO HH.out.2.2.1 HH.out.2.2.2 (fun k hk => .inl hk) (.inr ⟨by rw [hsz.out]; simp, by have := HH.out.2.1.size; rw [hsM.out] at this; omega⟩) (fun k hk hk2 => .inr ⟨by rw [hsM.out, hsz.out] at hk; simp at hk; omega, hk2⟩)
    have nB := h3.ne HB5.out (by decide) (by decide)
    have nR := h3.ne HR3.out (by decide) (by decide)
    have hs4 : w4.heap.size = w3.heap.size := by rw [HW.out]; exact size_set _ _ _
    refine ⟨.inl hok, .slice A1 (L.length + 1) cp1, gs ++ [(w1.heap.size, n.toNat)], ?_, ?_⟩
    · exact (Below.heap_setCell _ _ _ B (Ne.symm hne)).trans ((Below.heap_setCell _ _ _ B (Ne.symm hne)).trans hB6.out)
    · rw [size_set, size_set, hs4]
      refine h3.step' (fun k hk ho => ?_)
      have k1 : k ≠ w.heap.size := fun e => by subst e; rcases ho with ho | ho; exact nR.1 ho; exact nR.2 ho
      have k2 : k ≠ B := fun e => by subst e; rcases ho with ho | ho; exact nB.1 ho; exact nB.2 ho
      exact (Below.heap_setCell _ _ _ k k1).trans ((Below.heap_setCell _ _ _ k k1).trans (by rw [HW.out]; exact Below.heap_setCell _ _ _ k k2))
  · have H1 : Chg ok w w1 := (Chg.of (below_alloc (Below.refl _ _) _)).trans HC.out (fun x _ h => h ▸ hok)
    have H2 : Chg ok w (w1.drew.alloc (.cells (madeCells #[.int .i64 0] n.toNat) 3)) := H1.then (below_alloc (below_drew (Below.refl _ _)) _)
    have hb := HH.out.2.1
    have H3 : Chg ok w w3 := H2.trans (T := fun k => v.ownBlock = some k) ⟨hb.os, hb.tape, hb.output, hb.size, fun k hk hn => HH.out.2.2.1.block k hk (fun e => hn e.symm)⟩ (fun k _ hk => hA2.out.vok k hk)
    have H4 : Chg ok w w4 := by rw [HW.out]; exact H3.set _ _ (fun _ => hok)
    exact (H4.set _ _ (fun h => absurd h (Nat.lt_irrefl _))).set _ _ (fun h => absurd h (Nat.lt_irrefl _))
end Go.Proofs.Ytkhlfdcjgooogaa.P
