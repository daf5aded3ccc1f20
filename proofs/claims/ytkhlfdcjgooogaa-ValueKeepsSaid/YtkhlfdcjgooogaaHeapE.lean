/- runnelref9.Heap: is, Len, wrong, Get, Set: their contracts. -/
import Derived.Test.YtkhlfdcjgooogaaHeapD
namespace Go.Proofs.Ytkhlfdcjgooogaa.P
open Go.RowKit Go.Proofs.YtkhlfdcjgooogaaW.PrintWords Go.Proofs.YtkhlfdcjgooogaaW.PrintLast Go.Proofs.YtkhlfdcjgooogaaW.PrintMore
set_option linter.unusedVariables false
set_option linter.unusedSimpArgs false
set_option maxRecDepth 100000 in
set_option maxHeartbeats 2000000 in
theorem is_any {B : Nat} {A : Option Addr} {l c : Nat} (a n : Int) {w : World} (hB : w.heap[B]? = some (.cells #[.slice A l c] 51 (0, 0))) (hl : l ≤ 1000000) :
    Calls Try.prog 49 #[.pointer (some ⟨B, 0, none⟩), .agg #[.int .i64 a, .int .i64 n]] w fun e w' => e = .returned (.bool (decide (a = 3 ∧ 1 ≤ n ∧ n ≤ (l : Int)))) ∧ Below w.heap.size w w' := by
  have b0 := blk_cell hB 0
  have hlt := blk_lt hB
  clear hB
  by_cases h3 : a = 3
  · subst h3
    by_cases h1 : 1 ≤ n
    · by_cases h2 : n ≤ (l : Int)
      · have e : decide ((3 : Int) = 3 ∧ 1 ≤ n ∧ n ≤ (l : Int)) = true := decide_eq_true ⟨rfl, h1, h2⟩
        rw [e]
        have d2 : decide (1 ≤ n) = true := by simp [h1]
        have d3 : decide (n ≤ (l : Int)) = true := by simp [h2]
        clear e h1 h2
        go_enter Try.func49, Try.ntmps49
        go_wp2_with fail
        go_quiet (fail)
        go_wp2_with fail
        go_ret
        exact ⟨rfl, below_drewN ((Below.refl _ _).alloc (Nat.le_refl _) _)⟩
      · have e : decide ((3 : Int) = 3 ∧ 1 ≤ n ∧ n ≤ (l : Int)) = false := decide_eq_false (fun h => h2 h.2.2)
        rw [e]
        have d2 : decide (1 ≤ n) = true := by simp [h1]
        have d3 : decide (n ≤ (l : Int)) = false := by simp; omega
        clear e h1 h2
        go_enter Try.func49, Try.ntmps49
        go_wp2_with fail
        go_quiet (fail)
        go_wp2_with fail
        go_ret
        exact ⟨rfl, below_drewN ((Below.refl _ _).alloc (Nat.le_refl _) _)⟩
    · have e : decide ((3 : Int) = 3 ∧ 1 ≤ n ∧ n ≤ (l : Int)) = false := decide_eq_false (fun h => h1 h.2.1)
      rw [e]
      have d2 : decide (1 ≤ n) = false := by simp; omega
      clear e h1
      go_enter Try.func49, Try.ntmps49
      go_wp2_with fail
      go_quiet (fail)
      go_wp2_with fail
      go_ret
      exact ⟨rfl, below_drewN ((Below.refl _ _).alloc (Nat.le_refl _) _)⟩
  · have e : decide (a = 3 ∧ 1 ≤ n ∧ n ≤ (l : Int)) = false := decide_eq_false (fun h => h3 h.1)
    rw [e]
    have d2 : (a == 3) = false := by simp [h3]
    clear e h3
    go_enter Try.func49, Try.ntmps49
    go_wp2_with fail
    go_quiet (fail)
    go_wp2_with fail
    go_ret
    exact ⟨rfl, below_drewN ((Below.refl _ _).alloc (Nat.le_refl _) _)⟩
theorem is_not {B : Nat} {ok : Nat → Prop} {L : List (List Int)} {v : Value} {gs : List (Nat × Nat)} (a n : Int) {w : World} (hB : w.heap[B]? = some (.cells #[v] 51 (0, 0))) (hA : Arrs w ok v gs L) (hl : L.length ≤ 1000000) (h : isB L a n = false) :
    Calls Try.prog 49 #[.pointer (some ⟨B, 0, none⟩), .agg #[.int .i64 a, .int .i64 n]] w fun e w' => e = .returned (.bool false) ∧ Below w.heap.size w w' := by
  obtain ⟨A, c, rfl, _⟩ := hA.get
  have h1 := is_any a n hB hl
  have e : decide (a = 3 ∧ 1 ≤ n ∧ n ≤ (L.length : Int)) = false := h
  rwa [e] at h1
theorem is_yes {B : Nat} {A : Option Addr} {l c : Nat} (n : Int) {w : World} (hB : w.heap[B]? = some (.cells #[.slice A l c] 51 (0, 0))) (hl : l ≤ 1000000) (h1 : 1 ≤ n) (h2 : n ≤ (l : Int)) :
    Calls Try.prog 49 #[.pointer (some ⟨B, 0, none⟩), .agg #[.int .i64 3, .int .i64 n]] w fun e w' => e = .returned (.bool true) ∧ Below w.heap.size w w' := by
  have h := is_any 3 n hB hl
  rwa [decide_eq_true ⟨rfl, h1, h2⟩] at h
set_option maxRecDepth 100000 in
set_option maxHeartbeats 2000000 in
theorem rlen_no {B : Nat} {ok : Nat → Prop} {L : List (List Int)} {v : Value} {gs : List (Nat × Nat)} (a n : Int) {w : World} (hB : w.heap[B]? = some (.cells #[v] 51 (0, 0))) (hA : Arrs w ok v gs L) (hl : L.length ≤ 1000000) (h : isB L a n = false) :
    Calls Try.prog 26 #[.pointer (some ⟨B, 0, none⟩), .agg #[.int .i64 a, .int .i64 n]] w fun e w' => e = .returned (.int .i64 0) ∧ Below w.heap.size w w' := by
  have hb0 : Below w.heap.size w (w.alloc (.cells #[.int .i64 a, .int .i64 n] 27)) := below_alloc (Below.refl _ _) _
  have H := Lib.hid (is_not a n (blk_alloc hB (.cells #[.int .i64 a, .int .i64 n] 27)) (hA.step (fun k hk _ => hb0.block k hk)) hl h)
  clear hB hA h
  go_enter Try.func26, Try.ntmps26
  go_wp2_with (go_at_call 49; refine H.out.mono ?_; rintro e w1 ⟨rfl, hb⟩)
  go_ret
  exact ⟨rfl, below_step hb0 hb⟩
set_option maxRecDepth 100000 in
set_option maxHeartbeats 2000000 in
theorem rlen_yes {B g l c d m q : Nat} (n : Int) {w : World} (hB : w.heap[B]? = some (.cells #[.slice (some ⟨g, 0, none⟩) l c] 51 (0, 0))) (hl : l ≤ 1000000) (h1 : 1 ≤ n) (h2 : n ≤ (l : Int)) (hg : g < w.heap.size) (hc : w.cell? ⟨g, n.toNat - 1, none⟩ = some (.slice (some ⟨d, 0, none⟩) m q)) :
    Calls Try.prog 26 #[.pointer (some ⟨B, 0, none⟩), .agg #[.int .i64 3, .int .i64 n]] w fun e w' => e = .returned (.int .i64 m) ∧ Below w.heap.size w w' := by
  have hb0 : Below w.heap.size w (w.alloc (.cells #[.int .i64 3, .int .i64 n] 27)) := below_alloc (Below.refl _ _) _
  have hB1 := blk_alloc hB (.cells #[.int .i64 3, .int .i64 n] 27)
  have H := Lib.hid (is_yes n hB1 hl h1 h2)
  have cB := (blk_cell hB1 0).trans rfl
  have hc1 := pw_cell_below hb0 hc
  have hlt := blk_lt hB
  have hw : IntKind.i64.wrap (n - 1) = n - 1 := IntWalk.i64_in _ (by omega)
  have hn0 : 0 ≤ n - 1 := by omega
  have hn1 : n - 1 < (l : Int) := by omega
  have HB1 := Lib.hid hB1
  have HC1 := Lib.hid hc1
  clear hB hc hc1 hB1 cB
  go_enter Try.func26, Try.ntmps26
  go_wp2_with (go_at_call 49; refine H.out.mono ?_; rintro e w1 ⟨rfl, hb⟩; have cB := (blk_cell (blk_below HB1.out hb) 0).trans rfl; have cg := pw_cell_below hb HC1.out; have r0 := pw_cell_below hb (cell_new (X := w) (cs := #[.int .i64 3, .int .i64 n]) (t := 27) (j := 0) rfl rfl); have r1 := pw_cell_below hb (cell_new (X := w) (cs := #[.int .i64 3, .int .i64 n]) (t := 27) (j := 1) rfl rfl))
  go_quiet (fail)
  go_wp2_with fail
  go_ret
  exact ⟨rfl, below_drewN (below_step hb0 hb)⟩
set_option maxRecDepth 100000 in
set_option maxHeartbeats 2000000 in
theorem wrong_missing {B : Nat} {ok : Nat → Prop} {L : List (List Int)} {v : Value} {gs : List (Nat × Nat)} (a n k i : Int) {w : World} (hB : w.heap[B]? = some (.cells #[v] 51 (0, 0))) (hA : Arrs w ok v gs L) (hl : L.length ≤ 1000000) (h : isB L a n = false) :
    Calls Try.prog 60 #[.pointer (some ⟨B, 0, none⟩), .agg #[.int .i64 a, .int .i64 n], .agg #[.int .i64 k, .int .i64 i]] w fun e w' => e = .returned (.int .i64 3) ∧ Below w.heap.size w w' := by
  have hb0 : Below w.heap.size w ((w.alloc (.cells #[.int .i64 a, .int .i64 n] 27)).alloc (.cells #[.int .i64 k, .int .i64 i] 27)) := below_alloc (below_alloc (Below.refl _ _) _) _
  have H := Lib.hid (is_not a n (blk_alloc (blk_alloc hB (.cells #[.int .i64 a, .int .i64 n] 27)) (.cells #[.int .i64 k, .int .i64 i] 27)) (hA.step (fun k hk _ => hb0.block k hk)) hl h)
  clear hB hA h
  go_enter Try.func60, Try.ntmps60
  go_wp2_with (go_at_call 49; refine H.out.mono ?_; rintro e w1 ⟨rfl, hb⟩)
  go_ret
  exact ⟨rfl, below_step hb0 hb⟩
theorem cells2 {w : World} {a n k i : Int} {t : Nat} {w1 : World} (hb : Below ((w.alloc (.cells #[.int .i64 a, .int .i64 n] t)).alloc (.cells #[.int .i64 k, .int .i64 i] t)).heap.size ((w.alloc (.cells #[.int .i64 a, .int .i64 n] t)).alloc (.cells #[.int .i64 k, .int .i64 i] t)) w1) :
    w1.cell? ⟨w.heap.size, 0, none⟩ = some (.int .i64 a) ∧ w1.cell? ⟨w.heap.size, 1, none⟩ = some (.int .i64 n) ∧ w1.cell? ⟨w.heap.size + 1, 0, none⟩ = some (.int .i64 k) ∧ w1.cell? ⟨w.heap.size + 1, 1, none⟩ = some (.int .i64 i) := by
  have h1 : ((w.alloc (.cells #[.int .i64 a, .int .i64 n] t)).alloc (.cells #[.int .i64 k, .int .i64 i] t)).heap[w.heap.size]? = some (.cells #[.int .i64 a, .int .i64 n] t (0, 0)) := blk_alloc (heap_alloc_new w _) _
  have h2 : ((w.alloc (.cells #[.int .i64 a, .int .i64 n] t)).alloc (.cells #[.int .i64 k, .int .i64 i] t)).heap[w.heap.size + 1]? = some (.cells #[.int .i64 k, .int .i64 i] t (0, 0)) := by
    have h := heap_alloc_new (w.alloc (.cells #[.int .i64 a, .int .i64 n] t)) (.cells #[.int .i64 k, .int .i64 i] t)
    have e : (w.alloc (.cells #[.int .i64 a, .int .i64 n] t)).heap.size = w.heap.size + 1 := by simp
    rwa [e] at h
  exact ⟨(blk_cell (blk_below h1 hb) 0).trans rfl, (blk_cell (blk_below h1 hb) 1).trans rfl, (blk_cell (blk_below h2 hb) 0).trans rfl, (blk_cell (blk_below h2 hb) 1).trans rfl⟩
set_option maxRecDepth 100000 in
set_option maxHeartbeats 2000000 in
theorem wrong_range1 {B : Nat} {A : Option Addr} {l c : Nat} (n k i : Int) {w : World} (hB : w.heap[B]? = some (.cells #[.slice A l c] 51 (0, 0))) (hl : l ≤ 1000000) (h1 : 1 ≤ n) (h2 : n ≤ (l : Int)) (hr : k ≠ 1 ∨ i < 0) :
    Calls Try.prog 60 #[.pointer (some ⟨B, 0, none⟩), .agg #[.int .i64 3, .int .i64 n], .agg #[.int .i64 k, .int .i64 i]] w fun e w' => e = .returned (.int .i64 2) ∧ Below w.heap.size w w' := by
  have hb0 : Below w.heap.size w ((w.alloc (.cells #[.int .i64 3, .int .i64 n] 27)).alloc (.cells #[.int .i64 k, .int .i64 i] 27)) := below_alloc (below_alloc (Below.refl _ _) _) _
  have H := Lib.hid (is_yes n (blk_alloc (blk_alloc hB (.cells #[.int .i64 3, .int .i64 n] 27)) (.cells #[.int .i64 k, .int .i64 i] 27)) hl h1 h2)
  clear hB h1 h2
  by_cases h1 : k = 1
  · subst h1
    have d1 : decide (i < 0) = true := by simp; omega
    clear hr
    go_enter Try.func60, Try.ntmps60
    go_wp2_with (go_at_call 49; refine H.out.mono ?_; rintro e w1 ⟨rfl, hb⟩; obtain ⟨r0, r1, r2, r3⟩ := cells2 hb)
    go_quiet (fail)
    go_wp2_with fail
    go_ret
    exact ⟨rfl, below_drewN (below_step hb0 hb)⟩
  · have d1 : (k != 1) = true := by simp [h1]
    clear hr h1
    go_enter Try.func60, Try.ntmps60
    go_wp2_with (go_at_call 49; refine H.out.mono ?_; rintro e w1 ⟨rfl, hb⟩; obtain ⟨r0, r1, r2, r3⟩ := cells2 hb)
    go_quiet (fail)
    go_wp2_with fail
    go_ret
    exact ⟨rfl, below_drewN (below_step hb0 hb)⟩
set_option maxRecDepth 100000 in
set_option maxHeartbeats 2000000 in
theorem wrong_range2 {B g l c d m q : Nat} (n i : Int) {w : World} (hB : w.heap[B]? = some (.cells #[.slice (some ⟨g, 0, none⟩) l c] 51 (0, 0))) (hl : l ≤ 1000000) (h1 : 1 ≤ n) (h2 : n ≤ (l : Int)) (hg : g < w.heap.size) (hc : w.cell? ⟨g, n.toNat - 1, none⟩ = some (.slice (some ⟨d, 0, none⟩) m q)) (h0 : 0 ≤ i) (z : Bool) (hz : decide ((m : Int) ≤ i) = z) :
    Calls Try.prog 60 #[.pointer (some ⟨B, 0, none⟩), .agg #[.int .i64 3, .int .i64 n], .agg #[.int .i64 1, .int .i64 i]] w fun e w' => e = .returned (.int .i64 (if z then 2 else 0)) ∧ Below w.heap.size w w' := by
  have hb0 : Below w.heap.size w ((w.alloc (.cells #[.int .i64 3, .int .i64 n] 27)).alloc (.cells #[.int .i64 1, .int .i64 i] 27)) := below_alloc (below_alloc (Below.refl _ _) _) _
  have hB1 := Lib.hid (blk_alloc (blk_alloc hB (.cells #[.int .i64 3, .int .i64 n] 27)) (.cells #[.int .i64 1, .int .i64 i] 27))
  have H := Lib.hid (is_yes n hB1.out hl h1 h2)
  have HC := Lib.hid (pw_cell_below hb0 hc)
  have hg1 : g < ((w.alloc (.cells #[.int .i64 3, .int .i64 n] 27)).alloc (.cells #[.int .i64 1, .int .i64 i] 27)).heap.size := by simp; omega
  have d1 : decide (i < 0) = false := by simp; omega
  have h1' := Lib.hid h1
  have h2' := Lib.hid h2
  clear hB hc h1 h2
  cases z
  all_goals
    go_enter Try.func60, Try.ntmps60
    go_wp2_with (go_at_call 49; refine H.out.mono ?_; rintro e w1 ⟨rfl, hb⟩; obtain ⟨r0, r1, r2, r3⟩ := cells2 hb; have HB := Lib.hid hb)
    have HL := Lib.hid (rlen_yes (w := w1.drew) n (blk_below (blk_below hB1.out HB.out) (below_drew (Below.refl _ _))) hl h1'.out h2'.out (Nat.lt_of_lt_of_le hg1 HB.out.size) (cell_drew (pw_cell_below HB.out HC.out)))
    clear hb
    refine start_ (n := 16) (S := fun w' => w'.cell? ⟨w.heap.size, 0, none⟩ = some (.int .i64 3) ∧ w'.cell? ⟨w.heap.size, 1, none⟩ = some (.int .i64 n) ∧ w'.cell? ⟨w.heap.size + 1, 0, none⟩ = some (.int .i64 1) ∧ w'.cell? ⟨w.heap.size + 1, 1, none⟩ = some (.int .i64 i)) (ds := []) #[false, false, false, false, false, false, false, false, false, false, false, false, false, false, false, false] (by kernel_rfl) rfl rfl ⟨r0, r1, r2, r3⟩ (fun hHeld => ?_)
    refine pure_ (i := 0) (N := some 11) (v := ?_) (a' := ?_) #[true, false, false, false, false, false, false, false, false, false, false, false, false, false, false, false] rfl rfl (by kernel_rfl) (fun _ _ _ h => h) (Or.inl ⟨by rfl, ?_⟩) ?_ ?_
    rotate_left
    · intro w'
      go_simp
      with_reducible rfl
    rotate_left
    · simp only [Act.put, List.setIfInBounds_toArray, List.set_cons_zero, List.set_cons_succ, i64_w, i32_w]
      rfl
    refine take_ (i := 1) (N := some 12) (v := ?_) (a' := ?_) #[true, true, false, false, false, false, false, false, false, false, false, false, false, false, false, false] rfl rfl (by kernel_rfl) (fun _ _ _ h => h) (Or.inl ⟨by rfl, ?_⟩) hHeld ?_ ?_
    rotate_left
    · rintro w' ⟨s0, s1, s2, s3⟩
      go_simp
      with_reducible rfl
    rotate_left
    · simp only [Act.put, List.setIfInBounds_toArray, List.set_cons_zero, List.set_cons_succ, i64_w, i32_w]
      rfl
    refine pure_ (i := 2) (N := some 13) (v := ?_) (a' := ?_) #[true, true, true, false, false, false, false, false, false, false, false, false, false, false, false, false] rfl rfl (by kernel_rfl) (fun _ _ _ h => h) (Or.inl ⟨by rfl, ?_⟩) ?_ ?_
    rotate_left
    · intro w'
      go_simp
      with_reducible rfl
    rotate_left
    · simp only [Act.put, List.setIfInBounds_toArray, List.set_cons_zero, List.set_cons_succ, i64_w, i32_w]
      rfl
    refine pure_ (i := 3) (N := some 14) (v := ?_) (a' := ?_) #[true, true, true, true, false, false, false, false, false, false, false, false, false, false, false, false] rfl rfl (by kernel_rfl) (fun _ _ _ h => h) (Or.inl ⟨by rfl, ?_⟩) ?_ ?_
    rotate_left
    · intro w'
      go_simp
      with_reducible rfl
    rotate_left
    · simp only [Act.put, List.setIfInBounds_toArray, List.set_cons_zero, List.set_cons_succ, i64_w, i32_w]
      rfl
    refine pure_ (i := 4) (N := some 15) (v := ?_) (a' := ?_) #[true, true, true, true, true, false, false, false, false, false, false, false, false, false, false, false] rfl rfl (by kernel_rfl) (fun _ _ _ h => h) (Or.inl ⟨by rfl, ?_⟩) ?_ ?_
    rotate_left
    · intro w'
      go_simp
      with_reducible rfl
    rotate_left
    · simp only [Act.put, List.setIfInBounds_toArray, List.set_cons_zero, List.set_cons_succ, i64_w, i32_w]
      rfl
    refine take_ (i := 5) (N := some 16) (v := ?_) (a' := ?_) #[true, true, true, true, true, true, false, false, false, false, false, false, false, false, false, false] rfl rfl (by kernel_rfl) (fun _ _ _ h => h) (Or.inl ⟨by rfl, ?_⟩) hHeld ?_ ?_
    rotate_left
    · rintro w' ⟨s0, s1, s2, s3⟩
      go_simp
      with_reducible rfl
    rotate_left
    · simp only [Act.put, List.setIfInBounds_toArray, List.set_cons_zero, List.set_cons_succ, i64_w, i32_w]
      rfl
    refine pure_ (i := 6) (N := some 17) (v := ?_) (a' := ?_) #[true, true, true, true, true, true, true, false, false, false, false, false, false, false, false, false] rfl rfl (by kernel_rfl) (fun _ _ _ h => h) (Or.inl ⟨by rfl, ?_⟩) ?_ ?_
    rotate_left
    · intro w'
      go_simp
      with_reducible rfl
    rotate_left
    · simp only [Act.put, List.setIfInBounds_toArray, List.set_cons_zero, List.set_cons_succ, i64_w, i32_w]
      rfl
    refine pure_ (i := 7) (N := some 18) (v := ?_) (a' := ?_) #[true, true, true, true, true, true, true, true, false, false, false, false, false, false, false, false] rfl rfl (by kernel_rfl) (fun _ _ _ h => h) (Or.inl ⟨by rfl, ?_⟩) ?_ ?_
    rotate_left
    · intro w'
      go_simp
      with_reducible rfl
    rotate_left
    · simp only [Act.put, List.setIfInBounds_toArray, List.set_cons_zero, List.set_cons_succ, i64_w, i32_w]
      rfl
    refine pure_ (i := 8) (N := some 19) (v := ?_) (a' := ?_) #[true, true, true, true, true, true, true, true, true, false, false, false, false, false, false, false] rfl rfl (by kernel_rfl) (fun _ _ _ h => h) (Or.inl ⟨by rfl, ?_⟩) ?_ ?_
    rotate_left
    · intro w'
      go_simp
      with_reducible rfl
    rotate_left
    · simp only [Act.put, List.setIfInBounds_toArray, List.set_cons_zero, List.set_cons_succ, i64_w, i32_w]
      rfl
    refine pure_ (i := 9) (N := some 20) (v := ?_) (a' := ?_) #[true, true, true, true, true, true, true, true, true, true, false, false, false, false, false, false] rfl rfl (by kernel_rfl) (fun _ _ _ h => h) (Or.inl ⟨by rfl, ?_⟩) ?_ ?_
    rotate_left
    · intro w'
      go_simp
      with_reducible rfl
    rotate_left
    · simp only [Act.put, List.setIfInBounds_toArray, List.set_cons_zero, List.set_cons_succ, i64_w, i32_w]
      rfl
    refine pure_ (i := 11) (N := some 22) (v := ?_) (a' := ?_) #[true, true, true, true, true, true, true, true, true, true, false, true, false, false, false, false] rfl rfl (by kernel_rfl) (fun _ _ _ h => h) (Or.inl ⟨by rfl, ?_⟩) ?_ ?_
    rotate_left
    · intro w'
      go_simp
      with_reducible rfl
    rotate_left
    · simp only [Act.put, List.setIfInBounds_toArray, List.set_cons_zero, List.set_cons_succ, i64_w, i32_w]
      rfl
    refine take_ (i := 10) (N := some 21) (v := ?_) (a' := ?_) #[true, true, true, true, true, true, true, true, true, true, true, true, false, false, false, false] rfl rfl (by kernel_rfl) (fun _ _ _ h => h) (Or.inl ⟨by rfl, ?_⟩) hHeld ?_ ?_
    rotate_left
    · rintro w' ⟨s0, s1, s2, s3⟩
      go_simp
      with_reducible rfl
    rotate_left
    · simp only [Act.put, List.setIfInBounds_toArray, List.set_cons_zero, List.set_cons_succ, i64_w, i32_w]
      rfl
    refine take_ (i := 12) (N := some 23) (v := ?_) (a' := ?_) #[true, true, true, true, true, true, true, true, true, true, true, true, true, false, false, false] rfl rfl (by kernel_rfl) (fun _ _ _ h => h) (Or.inl ⟨by rfl, ?_⟩) hHeld ?_ ?_
    rotate_left
    · rintro w' ⟨s0, s1, s2, s3⟩
      go_simp
      with_reducible rfl
    rotate_left
    · simp only [Act.put, List.setIfInBounds_toArray, List.set_cons_zero, List.set_cons_succ, i64_w, i32_w]
      rfl
    refine one_ (i := 13) (N := some 24) #[true, true, true, true, true, true, true, true, true, true, true, true, true, true, false, false] rfl rfl (by kernel_rfl) (by decide) (fun K hK => ?_)
    refine goes_ Try.func26 (by kernel_rfl) rfl #[.pointer (some ⟨B, 0, none⟩), .agg #[.int .i64 3, .int .i64 n]] (by rfl) rfl rfl (by simp only [List.map_toArray, List.map_cons, List.map_nil]; rfl) ?_
    with_reducible refine (HL.out).mono ?_
    rintro e w3 ⟨rfl, hb3⟩
    refine ⟨_, rfl, ?_⟩
    have HB3 := Lib.hid hb3
    clear hb3
    refine hK.out _ _ ⟨pw_cell_below HB3.out hHeld.1, pw_cell_below HB3.out hHeld.2.1, pw_cell_below HB3.out hHeld.2.2.1, pw_cell_below HB3.out hHeld.2.2.2⟩ (fun hHeld => ?_)
    clear hK K
    refine norm_ (a' := ?_) ?_ ?_
    rotate_left
    · show Act.put _ (some 24) _ = _
      simp only [Act.put, List.setIfInBounds_toArray, List.set_cons_zero, List.set_cons_succ, i64_w, i32_w]
      rfl
    refine pure_ (i := 14) (N := some 25) (v := ?_) (a' := ?_) #[true, true, true, true, true, true, true, true, true, true, true, true, true, true, true, false] rfl rfl (by kernel_rfl) (fun _ _ _ h => h) (Or.inl ⟨by rfl, ?_⟩) ?_ ?_
    rotate_left
    · intro w'
      go_simp
      with_reducible rfl
    rotate_left
    · simp only [Act.put, List.setIfInBounds_toArray, List.set_cons_zero, List.set_cons_succ, i64_w, i32_w]
      rfl
    refine pure_ (i := 15) (N := some 26) (v := ?_) (a' := ?_) #[true, true, true, true, true, true, true, true, true, true, true, true, true, true, true, true] rfl rfl (by kernel_rfl) (fun _ _ _ h => h) (Or.inl ⟨by rfl, ?_⟩) ?_ ?_
    rotate_left
    · intro w'
      go_simp
      with_reducible rfl
    rotate_left
    · simp only [Act.put, List.setIfInBounds_toArray, List.set_cons_zero, List.set_cons_succ, i64_w, i32_w]
      rfl
    refine done_ (by kernel_rfl) ?_
    go_wp2_with fail
    go_ret
    exact ⟨rfl, below_step (below_drew (below_step hb0 HB.out)) HB3.out⟩
end Go.Proofs.Ytkhlfdcjgooogaa.P
