/- runnelref9.Heap: Get, Set, Cells, New: their contracts. -/
import Derived.Test.YtkhlfdcjgooogaaHeapE
namespace Go.Proofs.Ytkhlfdcjgooogaa.P
open Go.RowKit Go.Proofs.YtkhlfdcjgooogaaW.PrintWords Go.Proofs.YtkhlfdcjgooogaaW.PrintLast Go.Proofs.YtkhlfdcjgooogaaW.PrintMore
set_option linter.unusedVariables false
set_option linter.unusedSimpArgs false
theorem cells3 {w : World} {a n k i : Int} {t : Nat} {o3 : Obj} {w1 : World} (hb : Below (((w.alloc (.cells #[.int .i64 a, .int .i64 n] t)).alloc (.cells #[.int .i64 k, .int .i64 i] t)).alloc o3).heap.size (((w.alloc (.cells #[.int .i64 a, .int .i64 n] t)).alloc (.cells #[.int .i64 k, .int .i64 i] t)).alloc o3) w1) :
    w1.cell? ⟨w.heap.size, 0, none⟩ = some (.int .i64 a) ∧ w1.cell? ⟨w.heap.size, 1, none⟩ = some (.int .i64 n) ∧ w1.cell? ⟨w.heap.size + 1, 0, none⟩ = some (.int .i64 k) ∧ w1.cell? ⟨w.heap.size + 1, 1, none⟩ = some (.int .i64 i) :=
  cells2 ((below_alloc (Below.refl _ _) o3).trans (hb.mono (by simp)))
set_option maxRecDepth 100000 in
set_option maxHeartbeats 2000000 in
/-- The document's Get, where something is raised. -/
theorem rget_err {w : World} {B : Nat} (a n k i r : Int) (hr : r = 2 ∨ r = 3) (hwr : ∀ w1, Below w.heap.size w w1 → Calls Try.prog 60 #[.pointer (some ⟨B, 0, none⟩), .agg #[.int .i64 a, .int .i64 n], .agg #[.int .i64 k, .int .i64 i]] w1 fun e w' => e = .returned (.int .i64 r) ∧ Below w1.heap.size w1 w') :
    Calls Try.prog 41 #[.pointer (some ⟨B, 0, none⟩), .agg #[.int .i64 a, .int .i64 n], .agg #[.int .i64 k, .int .i64 i]] w fun e w' => e = .returned (.tuple #[.agg #[.int .i64 0, .int .i64 0], .int .i64 r]) ∧ Below w.heap.size w w' := by
  have hb0 : Below w.heap.size w (((w.alloc (.cells #[.int .i64 a, .int .i64 n] 27)).alloc (.cells #[.int .i64 k, .int .i64 i] 27)).alloc (.cells #[.int .i64 0, .int .i64 0] 27)) := below_alloc (below_alloc (below_alloc (Below.refl _ _) _) _) _
  have H := Lib.hid (hwr _ hb0)
  have d : (r != 0) = true := by rcases hr with rfl | rfl <;> rfl
  clear hwr hr
  go_enter Try.func41, Try.ntmps41
  go_wp2_with (go_at_call 60; refine H.out.mono ?_; rintro e w1 ⟨rfl, hb⟩; obtain ⟨hbc, hbf⟩ := bcell hb)
  have BK := blk_third hb
  refine bodyPost_ret (results_ct rfl _ _ (w.heap.size + 1 + 1) 27 #[.int .i64 0, .int .i64 0] (0, 0) _ rfl (blk_put (blk_put BK 0 _ rfl) 1 _ rfl) Try.underlying27 rfl (by kernel_rfl)) rfl ?_
  exact ⟨rfl, ((below_step hb0 hb).setCell (le2 _) _).setCell (le2 _) _⟩
set_option maxRecDepth 100000 in
set_option maxHeartbeats 2000000 in
/-- .. of a cell. -/
theorem rget_is {w : World} {B g l c d m q : Nat} (n i u : Int) (hB : w.heap[B]? = some (.cells #[.slice (some ⟨g, 0, none⟩) l c] 51 (0, 0))) (hl : l ≤ 1000000) (h1 : 1 ≤ n) (h2 : n ≤ (l : Int)) (hg : g < w.heap.size) (hc : w.cell? ⟨g, n.toNat - 1, none⟩ = some (.slice (some ⟨d, 0, none⟩) m q)) (hm : m ≤ 1000000) (h0 : 0 ≤ i) (him : i < (m : Int)) (hu : w.cell? ⟨d, i.toNat, none⟩ = some (.int .i64 u))
    (hwr : ∀ w1, Below w.heap.size w w1 → Calls Try.prog 60 #[.pointer (some ⟨B, 0, none⟩), .agg #[.int .i64 3, .int .i64 n], .agg #[.int .i64 1, .int .i64 i]] w1 fun e w' => e = .returned (.int .i64 0) ∧ Below w1.heap.size w1 w') :
    Calls Try.prog 41 #[.pointer (some ⟨B, 0, none⟩), .agg #[.int .i64 3, .int .i64 n], .agg #[.int .i64 1, .int .i64 i]] w fun e w' => e = .returned (.tuple #[.agg #[.int .i64 1, .int .i64 u], .int .i64 0]) ∧ Below w.heap.size w w' := by
  have hb0 : Below w.heap.size w (((w.alloc (.cells #[.int .i64 3, .int .i64 n] 27)).alloc (.cells #[.int .i64 1, .int .i64 i] 27)).alloc (.cells #[.int .i64 0, .int .i64 0] 27)) := below_alloc (below_alloc (below_alloc (Below.refl _ _) _) _) _
  have H := Lib.hid (hwr _ hb0)
  have HB1 := Lib.hid (blk_below hB hb0)
  have HC1 := Lib.hid (pw_cell_below hb0 hc)
  have HU1 := Lib.hid (pw_cell_below hb0 hu)
  have hw : IntKind.i64.wrap (n - 1) = n - 1 := IntWalk.i64_in _ (by omega)
  have hn0 : 0 ≤ n - 1 := by omega
  have hn1 : n - 1 < (l : Int) := by omega
  have hlt := blk_lt hB
  clear hwr hc hu hB
  go_enter Try.func41, Try.ntmps41
  go_wp2_with (go_at_call 60; refine H.out.mono ?_; rintro e w1 ⟨rfl, hb⟩; obtain ⟨r0, r1, r2, r3⟩ := cells3 hb; have cB := (blk_cell (blk_below HB1.out hb) 0).trans rfl; have cg := pw_cell_below hb HC1.out; have cu := pw_cell_below hb HU1.out; have BK := Lib.hid (blk_third hb); have HB := Lib.hid hb; clear hb)
  have q0 : w1.cell? ⟨w.heap.size + 1 + 1, 0, none⟩ = some (.int .i64 0) := (blk_cell BK.out 0).trans rfl
  have q1 : w1.cell? ⟨w.heap.size + 1 + 1, 1, none⟩ = some (.int .i64 0) := (blk_cell BK.out 1).trans rfl
  have q2 := blk_frozen BK.out 0
  have q3 := blk_frozen BK.out 1
  refine start_ (n := 16) (S := fun w' => w'.cell? ⟨B, 0, none⟩ = some (.slice (some ⟨g, 0, none⟩) l c) ∧ w'.cell? ⟨w.heap.size, 1, none⟩ = some (.int .i64 n) ∧ w'.cell? ⟨w.heap.size + 1, 1, none⟩ = some (.int .i64 i) ∧ w'.cell? ⟨g, n.toNat - 1, none⟩ = some (.slice (some ⟨d, 0, none⟩) m q) ∧ w'.cell? ⟨d, i.toNat, none⟩ = some (.int .i64 u)) (ds := [14]) #[false, false, false, false, false, false, false, false, false, false, false, false, false, false, false, false] (by kernel_rfl) rfl rfl ⟨cB, r1, r3, cg, cu⟩ (fun hHeld => ?_)
  refine pure_ (i := 0) (N := some 17) (v := ?_) (a' := ?_) #[true, false, false, false, false, false, false, false, false, false, false, false, false, false, false, false] rfl rfl (by kernel_rfl) (fun _ _ _ h => h) (Or.inl ⟨by rfl, ?_⟩) ?_ ?_
  rotate_left
  · intro w'
    go_simp
    with_reducible rfl
  rotate_left
  · simp only [Act.put, List.setIfInBounds_toArray, List.set_cons_zero, List.set_cons_succ, i64_w, i32_w]
    rfl
  refine pure_ (i := 1) (N := some 18) (v := ?_) (a' := ?_) #[true, true, false, false, false, false, false, false, false, false, false, false, false, false, false, false] rfl rfl (by kernel_rfl) (fun _ _ _ h => h) (Or.inl ⟨by rfl, ?_⟩) ?_ ?_
  rotate_left
  · intro w'
    go_simp
    with_reducible rfl
  rotate_left
  · simp only [Act.put, List.setIfInBounds_toArray, List.set_cons_zero, List.set_cons_succ, i64_w, i32_w]
    rfl
  refine pure_ (i := 2) (N := some 19) (v := ?_) (a' := ?_) #[true, true, true, false, false, false, false, false, false, false, false, false, false, false, false, false] rfl rfl (by kernel_rfl) (fun _ _ _ h => h) (Or.inl ⟨by rfl, ?_⟩) ?_ ?_
  rotate_left
  · intro w'
    go_simp
    with_reducible rfl
  rotate_left
  · simp only [Act.put, List.setIfInBounds_toArray, List.set_cons_zero, List.set_cons_succ, i64_w, i32_w]
    rfl
  refine pure_ (i := 4) (N := some 21) (v := ?_) (a' := ?_) #[true, true, true, false, true, false, false, false, false, false, false, false, false, false, false, false] rfl rfl (by kernel_rfl) (fun _ _ _ h => h) (Or.inl ⟨by rfl, ?_⟩) ?_ ?_
  rotate_left
  · intro w'
    go_simp
    with_reducible rfl
  rotate_left
  · simp only [Act.put, List.setIfInBounds_toArray, List.set_cons_zero, List.set_cons_succ, i64_w, i32_w]
    rfl
  refine pure_ (i := 9) (N := some 26) (v := ?_) (a' := ?_) #[true, true, true, false, true, false, false, false, false, true, false, false, false, false, false, false] rfl rfl (by kernel_rfl) (fun _ _ _ h => h) (Or.inl ⟨by rfl, ?_⟩) ?_ ?_
  rotate_left
  · intro w'
    go_simp
    with_reducible rfl
  rotate_left
  · simp only [Act.put, List.setIfInBounds_toArray, List.set_cons_zero, List.set_cons_succ, i64_w, i32_w]
    rfl
  refine take_ (i := 3) (N := some 20) (v := ?_) (a' := ?_) #[true, true, true, true, true, false, false, false, false, true, false, false, false, false, false, false] rfl rfl (by kernel_rfl) (fun _ _ _ h => h) (Or.inl ⟨by rfl, ?_⟩) hHeld ?_ ?_
  rotate_left
  · rintro w' ⟨s0, s1, s2, s3, s4⟩
    go_simp
    with_reducible rfl
  rotate_left
  · simp only [Act.put, List.setIfInBounds_toArray, List.set_cons_zero, List.set_cons_succ, i64_w, i32_w]
    rfl
  refine take_ (i := 5) (N := some 22) (v := ?_) (a' := ?_) #[true, true, true, true, true, true, false, false, false, true, false, false, false, false, false, false] rfl rfl (by kernel_rfl) (fun _ _ _ h => h) (Or.inl ⟨by rfl, ?_⟩) hHeld ?_ ?_
  rotate_left
  · rintro w' ⟨s0, s1, s2, s3, s4⟩
    go_simp
    with_reducible rfl
  rotate_left
  · simp only [Act.put, List.setIfInBounds_toArray, List.set_cons_zero, List.set_cons_succ, i64_w, i32_w]
    rfl
  refine pure_ (i := 6) (N := some 23) (v := ?_) (a' := ?_) #[true, true, true, true, true, true, true, false, false, true, false, false, false, false, false, false] rfl rfl (by kernel_rfl) (fun _ _ _ h => h) (Or.inl ⟨by rfl, ?_⟩) ?_ ?_
  rotate_left
  · intro w'
    go_simp
    with_reducible rfl
  rotate_left
  · simp only [Act.put, List.setIfInBounds_toArray, List.set_cons_zero, List.set_cons_succ, i64_w, i32_w]
    rfl
  refine pure_ (i := 7) (N := some 24) (v := ?_) (a' := ?_) #[true, true, true, true, true, true, true, true, false, true, false, false, false, false, false, false] rfl rfl (by kernel_rfl) (fun _ _ _ h => h) (Or.inl ⟨by rfl, ?_⟩) ?_ ?_
  rotate_left
  · intro w'
    go_simp
    with_reducible rfl
  rotate_left
  · simp only [Act.put, List.setIfInBounds_toArray, List.set_cons_zero, List.set_cons_succ, i64_w, i32_w]
    rfl
  refine take_ (i := 8) (N := some 25) (v := ?_) (a' := ?_) #[true, true, true, true, true, true, true, true, true, true, false, false, false, false, false, false] rfl rfl (by kernel_rfl) (fun _ _ _ h => h) (Or.inl ⟨by rfl, ?_⟩) hHeld ?_ ?_
  rotate_left
  · rintro w' ⟨s0, s1, s2, s3, s4⟩
    go_simp
    with_reducible rfl
  rotate_left
  · simp only [Act.put, List.setIfInBounds_toArray, List.set_cons_zero, List.set_cons_succ, i64_w, i32_w]
    rfl
  refine take_ (i := 10) (N := some 27) (v := ?_) (a' := ?_) #[true, true, true, true, true, true, true, true, true, true, true, false, false, false, false, false] rfl rfl (by kernel_rfl) (fun _ _ _ h => h) (Or.inl ⟨by rfl, ?_⟩) hHeld ?_ ?_
  rotate_left
  · rintro w' ⟨s0, s1, s2, s3, s4⟩
    go_simp
    with_reducible rfl
  rotate_left
  · simp only [Act.put, List.setIfInBounds_toArray, List.set_cons_zero, List.set_cons_succ, i64_w, i32_w]
    rfl
  refine pure_ (i := 11) (N := some 28) (v := ?_) (a' := ?_) #[true, true, true, true, true, true, true, true, true, true, true, true, false, false, false, false] rfl rfl (by kernel_rfl) (fun _ _ _ h => h) (Or.inl ⟨by rfl, ?_⟩) ?_ ?_
  rotate_left
  · intro w'
    go_simp
    with_reducible rfl
  rotate_left
  · simp only [Act.put, List.setIfInBounds_toArray, List.set_cons_zero, List.set_cons_succ, i64_w, i32_w]
    rfl
  refine take_ (i := 12) (N := some 29) (v := ?_) (a' := ?_) #[true, true, true, true, true, true, true, true, true, true, true, true, true, false, false, false] rfl rfl (by kernel_rfl) (fun _ _ _ h => h) (Or.inl ⟨by rfl, ?_⟩) hHeld ?_ ?_
  rotate_left
  · rintro w' ⟨s0, s1, s2, s3, s4⟩
    go_simp
    with_reducible rfl
  rotate_left
  · simp only [Act.put, List.setIfInBounds_toArray, List.set_cons_zero, List.set_cons_succ, i64_w, i32_w]
    rfl
  refine pure_ (i := 13) (N := some 30) (v := ?_) (a' := ?_) #[true, true, true, true, true, true, true, true, true, true, true, true, true, true, false, false] rfl rfl (by kernel_rfl) (fun _ _ _ h => h) (Or.inl ⟨by rfl, ?_⟩) ?_ ?_
  rotate_left
  · intro w'
    go_simp
    with_reducible rfl
  rotate_left
  · simp only [Act.put, List.setIfInBounds_toArray, List.set_cons_zero, List.set_cons_succ, i64_w, i32_w]
    rfl
  refine last_ (i := 14) (N := none) #[true, true, true, true, true, true, true, true, true, true, true, true, true, true, true, false] rfl rfl (by kernel_rfl) (by decide) (fun K hK => ?_)
  refine skip_ (w1 := ?_) (by rfl) rfl ?_ ?_
  rotate_left
  · go_simp
    rfl
  refine hK.out _ _ ?_
  clear hK K
  refine pure_ (i := 15) (N := some 7) (v := ?_) (a' := ?_) #[true, true, true, true, true, true, true, true, true, true, true, true, true, true, true, true] rfl rfl (by kernel_rfl) (fun _ _ _ h => h) (Or.inl ⟨by rfl, ?_⟩) ?_ ?_
  rotate_left
  · intro w'
    go_simp
    with_reducible rfl
  rotate_left
  · simp only [Act.put, List.setIfInBounds_toArray, List.set_cons_zero, List.set_cons_succ, i64_w, i32_w]
    rfl
  refine done_ (by kernel_rfl) ?_
  go_wp2_with fail
  refine bodyPost_ret (results_ct rfl _ _ (w.heap.size + 1 + 1) 27 #[.int .i64 1, .int .i64 u] (0, 0) _ rfl (blk_put (blk_put (cs := #[.int .i64 0, .int .i64 0]) (by exact BK.out) 0 _ rfl) 1 _ rfl) Try.underlying27 rfl (by kernel_rfl)) rfl ?_
  exact ⟨rfl, ((below_drew (below_step hb0 HB.out)).setCell (le2 _) _).setCell (le2 _) _⟩
set_option maxRecDepth 100000 in
set_option maxHeartbeats 2000000 in
/-- The document's Set, where something is raised. -/
theorem rset_err {w : World} {B : Nat} (a n k i s x r : Int) (hr : r = 2 ∨ r = 3) (hwr : ∀ w1, Below w.heap.size w w1 → Calls Try.prog 60 #[.pointer (some ⟨B, 0, none⟩), .agg #[.int .i64 a, .int .i64 n], .agg #[.int .i64 k, .int .i64 i]] w1 fun e w' => e = .returned (.int .i64 r) ∧ Below w1.heap.size w1 w') :
    Calls Try.prog 42 #[.pointer (some ⟨B, 0, none⟩), .agg #[.int .i64 a, .int .i64 n], .agg #[.int .i64 k, .int .i64 i], .agg #[.int .i64 s, .int .i64 x]] w fun e w' => e = .returned (.int .i64 r) ∧ Below w.heap.size w w' := by
  have hb0 : Below w.heap.size w (((w.alloc (.cells #[.int .i64 a, .int .i64 n] 27)).alloc (.cells #[.int .i64 k, .int .i64 i] 27)).alloc (.cells #[.int .i64 s, .int .i64 x] 27)) := below_alloc (below_alloc (below_alloc (Below.refl _ _) _) _) _
  have H := Lib.hid (hwr _ hb0)
  have d : (r == 0) = false := by rcases hr with rfl | rfl <;> rfl
  clear hwr hr
  go_enter Try.func42, Try.ntmps42
  go_wp2_with (go_at_call 60; refine H.out.mono ?_; rintro e w1 ⟨rfl, hb⟩; obtain ⟨hbc, hbf⟩ := bcell hb)
  go_ret
  exact ⟨rfl, below_step hb0 hb⟩
set_option maxRecDepth 100000 in
set_option maxHeartbeats 2000000 in
theorem rset_nop {w : World} {B : Nat} (a n k i s x : Int) (hs : s ≠ 1) (hwr : ∀ w1, Below w.heap.size w w1 → Calls Try.prog 60 #[.pointer (some ⟨B, 0, none⟩), .agg #[.int .i64 a, .int .i64 n], .agg #[.int .i64 k, .int .i64 i]] w1 fun e w' => e = .returned (.int .i64 0) ∧ Below w1.heap.size w1 w') :
    Calls Try.prog 42 #[.pointer (some ⟨B, 0, none⟩), .agg #[.int .i64 a, .int .i64 n], .agg #[.int .i64 k, .int .i64 i], .agg #[.int .i64 s, .int .i64 x]] w fun e w' => e = .returned (.int .i64 0) ∧ Below w.heap.size w w' := by
  have hb0 : Below w.heap.size w (((w.alloc (.cells #[.int .i64 a, .int .i64 n] 27)).alloc (.cells #[.int .i64 k, .int .i64 i] 27)).alloc (.cells #[.int .i64 s, .int .i64 x] 27)) := below_alloc (below_alloc (below_alloc (Below.refl _ _) _) _) _
  have H := Lib.hid (hwr _ hb0)
  have d : (s == 1) = false := by simp [hs]
  clear hwr hs
  go_enter Try.func42, Try.ntmps42
  go_wp2_with (go_at_call 60; refine H.out.mono ?_; rintro e w1 ⟨rfl, hb⟩; obtain ⟨hbc, hbf⟩ := bcell hb)
  go_ret
  exact ⟨rfl, below_step hb0 hb⟩
set_option maxRecDepth 100000 in
set_option maxHeartbeats 2000000 in
theorem rset_is {w : World} {B g l c d m q : Nat} (n i x : Int) (u : Value) (hB : w.heap[B]? = some (.cells #[.slice (some ⟨g, 0, none⟩) l c] 51 (0, 0))) (hl : l ≤ 1000000) (h1 : 1 ≤ n) (h2 : n ≤ (l : Int)) (hg : g < w.heap.size) (hc : w.cell? ⟨g, n.toNat - 1, none⟩ = some (.slice (some ⟨d, 0, none⟩) m q)) (hm : m ≤ 1000000) (h0 : 0 ≤ i) (him : i < (m : Int)) (hd : d < w.heap.size) (hu : w.cell? ⟨d, i.toNat, none⟩ = some u) (hf : w.frozen? ⟨d, i.toNat, none⟩ = false)
    (hwr : ∀ w1, Below w.heap.size w w1 → Calls Try.prog 60 #[.pointer (some ⟨B, 0, none⟩), .agg #[.int .i64 3, .int .i64 n], .agg #[.int .i64 1, .int .i64 i]] w1 fun e w' => e = .returned (.int .i64 0) ∧ Below w1.heap.size w1 w') :
    Calls Try.prog 42 #[.pointer (some ⟨B, 0, none⟩), .agg #[.int .i64 3, .int .i64 n], .agg #[.int .i64 1, .int .i64 i], .agg #[.int .i64 1, .int .i64 x]] w fun e w' => e = .returned (.int .i64 0) ∧ ∃ w1, Below w.heap.size w w1 ∧ w' = w1.setCell ⟨d, i.toNat, none⟩ (.int .i64 x) := by
  have hb0 : Below w.heap.size w (((w.alloc (.cells #[.int .i64 3, .int .i64 n] 27)).alloc (.cells #[.int .i64 1, .int .i64 i] 27)).alloc (.cells #[.int .i64 1, .int .i64 x] 27)) := below_alloc (below_alloc (below_alloc (Below.refl _ _) _) _) _
  have H := Lib.hid (hwr _ hb0)
  have HB1 := Lib.hid (blk_below hB hb0)
  have HC1 := Lib.hid (pw_cell_below hb0 hc)
  have HU1 := Lib.hid (pw_cell_below hb0 hu)
  have HF1 := Lib.hid ((hb0.frozen (p := ⟨d, i.toNat, none⟩) hd).trans hf)
  have hd1 : d < (((w.alloc (.cells #[.int .i64 3, .int .i64 n] 27)).alloc (.cells #[.int .i64 1, .int .i64 i] 27)).alloc (.cells #[.int .i64 1, .int .i64 x] 27)).heap.size := by simp; omega
  have hw : IntKind.i64.wrap (n - 1) = n - 1 := IntWalk.i64_in _ (by omega)
  have hn0 : 0 ≤ n - 1 := by omega
  have hn1 : n - 1 < (l : Int) := by omega
  have hlt := blk_lt hB
  clear hwr hc hu hB hf
  go_enter Try.func42, Try.ntmps42
  go_wp2_with (go_at_call 60; refine H.out.mono ?_; rintro e w1 ⟨rfl, hb⟩; obtain ⟨r0, r1, r2, r3⟩ := cells3 hb; have cB := (blk_cell (blk_below HB1.out hb) 0).trans rfl; have cg := pw_cell_below hb HC1.out; have cu := pw_cell_below hb HU1.out; have cf := (hb.frozen (p := ⟨d, i.toNat, none⟩) hd1).trans HF1.out; have BK := Lib.hid (blk_third hb); have q0 := (blk_cell BK.out 0).trans rfl;  have q1 := (blk_cell BK.out 1).trans rfl; have HB := Lib.hid hb; clear hb)
  refine start_ (n := 15) (S := fun w' => w'.cell? ⟨B, 0, none⟩ = some (.slice (some ⟨g, 0, none⟩) l c) ∧ w'.cell? ⟨w.heap.size, 1, none⟩ = some (.int .i64 n) ∧ w'.cell? ⟨w.heap.size + 1, 1, none⟩ = some (.int .i64 i) ∧ w'.cell? ⟨g, n.toNat - 1, none⟩ = some (.slice (some ⟨d, 0, none⟩) m q) ∧ w'.cell? ⟨d, i.toNat, none⟩ = some u ∧ w'.cell? ⟨w.heap.size + 1 + 1, 1, none⟩ = some (.int .i64 x)) (ds := [14]) #[false, false, false, false, false, false, false, false, false, false, false, false, false, false, false] (by kernel_rfl) rfl rfl ⟨cB, r1, r3, cg, cu, q1⟩ (fun hHeld => ?_)
  refine pure_ (i := 0) (N := some 21) (v := ?_) (a' := ?_) #[true, false, false, false, false, false, false, false, false, false, false, false, false, false, false] rfl rfl (by kernel_rfl) (fun _ _ _ h => h) (Or.inl ⟨by rfl, ?_⟩) ?_ ?_
  rotate_left
  · intro w'
    go_simp
    with_reducible rfl
  rotate_left
  · simp only [Act.put, List.setIfInBounds_toArray, List.set_cons_zero, List.set_cons_succ, i64_w, i32_w]
    rfl
  refine pure_ (i := 1) (N := some 22) (v := ?_) (a' := ?_) #[true, true, false, false, false, false, false, false, false, false, false, false, false, false, false] rfl rfl (by kernel_rfl) (fun _ _ _ h => h) (Or.inl ⟨by rfl, ?_⟩) ?_ ?_
  rotate_left
  · intro w'
    go_simp
    with_reducible rfl
  rotate_left
  · simp only [Act.put, List.setIfInBounds_toArray, List.set_cons_zero, List.set_cons_succ, i64_w, i32_w]
    rfl
  refine pure_ (i := 2) (N := some 23) (v := ?_) (a' := ?_) #[true, true, true, false, false, false, false, false, false, false, false, false, false, false, false] rfl rfl (by kernel_rfl) (fun _ _ _ h => h) (Or.inl ⟨by rfl, ?_⟩) ?_ ?_
  rotate_left
  · intro w'
    go_simp
    with_reducible rfl
  rotate_left
  · simp only [Act.put, List.setIfInBounds_toArray, List.set_cons_zero, List.set_cons_succ, i64_w, i32_w]
    rfl
  refine pure_ (i := 4) (N := some 25) (v := ?_) (a' := ?_) #[true, true, true, false, true, false, false, false, false, false, false, false, false, false, false] rfl rfl (by kernel_rfl) (fun _ _ _ h => h) (Or.inl ⟨by rfl, ?_⟩) ?_ ?_
  rotate_left
  · intro w'
    go_simp
    with_reducible rfl
  rotate_left
  · simp only [Act.put, List.setIfInBounds_toArray, List.set_cons_zero, List.set_cons_succ, i64_w, i32_w]
    rfl
  refine pure_ (i := 9) (N := some 30) (v := ?_) (a' := ?_) #[true, true, true, false, true, false, false, false, false, true, false, false, false, false, false] rfl rfl (by kernel_rfl) (fun _ _ _ h => h) (Or.inl ⟨by rfl, ?_⟩) ?_ ?_
  rotate_left
  · intro w'
    go_simp
    with_reducible rfl
  rotate_left
  · simp only [Act.put, List.setIfInBounds_toArray, List.set_cons_zero, List.set_cons_succ, i64_w, i32_w]
    rfl
  refine pure_ (i := 11) (N := some 32) (v := ?_) (a' := ?_) #[true, true, true, false, true, false, false, false, false, true, false, true, false, false, false] rfl rfl (by kernel_rfl) (fun _ _ _ h => h) (Or.inl ⟨by rfl, ?_⟩) ?_ ?_
  rotate_left
  · intro w'
    go_simp
    with_reducible rfl
  rotate_left
  · simp only [Act.put, List.setIfInBounds_toArray, List.set_cons_zero, List.set_cons_succ, i64_w, i32_w]
    rfl
  refine take_ (i := 3) (N := some 24) (v := ?_) (a' := ?_) #[true, true, true, true, true, false, false, false, false, true, false, true, false, false, false] rfl rfl (by kernel_rfl) (fun _ _ _ h => h) (Or.inl ⟨by rfl, ?_⟩) hHeld ?_ ?_
  rotate_left
  · rintro w' ⟨s0, s1, s2, s3, s4, s5⟩
    go_simp
    with_reducible rfl
  rotate_left
  · simp only [Act.put, List.setIfInBounds_toArray, List.set_cons_zero, List.set_cons_succ, i64_w, i32_w]
    rfl
  refine take_ (i := 5) (N := some 26) (v := ?_) (a' := ?_) #[true, true, true, true, true, true, false, false, false, true, false, true, false, false, false] rfl rfl (by kernel_rfl) (fun _ _ _ h => h) (Or.inl ⟨by rfl, ?_⟩) hHeld ?_ ?_
  rotate_left
  · rintro w' ⟨s0, s1, s2, s3, s4, s5⟩
    go_simp
    with_reducible rfl
  rotate_left
  · simp only [Act.put, List.setIfInBounds_toArray, List.set_cons_zero, List.set_cons_succ, i64_w, i32_w]
    rfl
  refine pure_ (i := 6) (N := some 27) (v := ?_) (a' := ?_) #[true, true, true, true, true, true, true, false, false, true, false, true, false, false, false] rfl rfl (by kernel_rfl) (fun _ _ _ h => h) (Or.inl ⟨by rfl, ?_⟩) ?_ ?_
  rotate_left
  · intro w'
    go_simp
    with_reducible rfl
  rotate_left
  · simp only [Act.put, List.setIfInBounds_toArray, List.set_cons_zero, List.set_cons_succ, i64_w, i32_w]
    rfl
  refine pure_ (i := 7) (N := some 28) (v := ?_) (a' := ?_) #[true, true, true, true, true, true, true, true, false, true, false, true, false, false, false] rfl rfl (by kernel_rfl) (fun _ _ _ h => h) (Or.inl ⟨by rfl, ?_⟩) ?_ ?_
  rotate_left
  · intro w'
    go_simp
    with_reducible rfl
  rotate_left
  · simp only [Act.put, List.setIfInBounds_toArray, List.set_cons_zero, List.set_cons_succ, i64_w, i32_w]
    rfl
  refine take_ (i := 8) (N := some 29) (v := ?_) (a' := ?_) #[true, true, true, true, true, true, true, true, true, true, false, true, false, false, false] rfl rfl (by kernel_rfl) (fun _ _ _ h => h) (Or.inl ⟨by rfl, ?_⟩) hHeld ?_ ?_
  rotate_left
  · rintro w' ⟨s0, s1, s2, s3, s4, s5⟩
    go_simp
    with_reducible rfl
  rotate_left
  · simp only [Act.put, List.setIfInBounds_toArray, List.set_cons_zero, List.set_cons_succ, i64_w, i32_w]
    rfl
  refine take_ (i := 10) (N := some 31) (v := ?_) (a' := ?_) #[true, true, true, true, true, true, true, true, true, true, true, true, false, false, false] rfl rfl (by kernel_rfl) (fun _ _ _ h => h) (Or.inl ⟨by rfl, ?_⟩) hHeld ?_ ?_
  rotate_left
  · rintro w' ⟨s0, s1, s2, s3, s4, s5⟩
    go_simp
    with_reducible rfl
  rotate_left
  · simp only [Act.put, List.setIfInBounds_toArray, List.set_cons_zero, List.set_cons_succ, i64_w, i32_w]
    rfl
  refine take_ (i := 12) (N := some 33) (v := ?_) (a' := ?_) #[true, true, true, true, true, true, true, true, true, true, true, true, true, false, false] rfl rfl (by kernel_rfl) (fun _ _ _ h => h) (Or.inl ⟨by rfl, ?_⟩) hHeld ?_ ?_
  rotate_left
  · rintro w' ⟨s0, s1, s2, s3, s4, s5⟩
    go_simp
    with_reducible rfl
  rotate_left
  · simp only [Act.put, List.setIfInBounds_toArray, List.set_cons_zero, List.set_cons_succ, i64_w, i32_w]
    rfl
  refine pure_ (i := 13) (N := some 34) (v := ?_) (a' := ?_) #[true, true, true, true, true, true, true, true, true, true, true, true, true, true, false] rfl rfl (by kernel_rfl) (fun _ _ _ h => h) (Or.inl ⟨by rfl, ?_⟩) ?_ ?_
  rotate_left
  · intro w'
    go_simp
    with_reducible rfl
  rotate_left
  · simp only [Act.put, List.setIfInBounds_toArray, List.set_cons_zero, List.set_cons_succ, i64_w, i32_w]
    rfl
  refine last_ (i := 14) (N := none) #[true, true, true, true, true, true, true, true, true, true, true, true, true, true, true] rfl rfl (by kernel_rfl) (by decide) (fun K hK => ?_)
  refine skip_ (w1 := ?_) (by rfl) rfl ?_ ?_
  rotate_left
  · go_simp
    rfl
  refine hK.out _ _ ?_
  clear hK K
  refine done_ (by kernel_rfl) ?_
  go_wp2_with fail
  go_ret
  exact ⟨rfl, _, below_drew (below_step hb0 HB.out), rfl⟩
end Go.Proofs.Ytkhlfdcjgooogaa.P
