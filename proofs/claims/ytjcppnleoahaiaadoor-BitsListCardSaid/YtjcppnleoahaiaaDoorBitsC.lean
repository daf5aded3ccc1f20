/- bits.Set: Or, And, Minus. -/
import Derived.Test.YtjcppnleoahaiaaDoorBitsB
namespace Go.Proofs.YtjcppnleoahaiaaDoor.P
open Go.RowKit Go.Proofs.YtjcppnleoahaiaaDoorW.PrintWords Go.Proofs.YtjcppnleoahaiaaDoorW.PrintLast Go.Proofs.YtjcppnleoahaiaaDoorW.PrintMore
set_option linter.unusedVariables false
set_option linter.unusedSimpArgs false
theorem blk_new2 (X : World) (o o' o2 : Obj) : (((X.alloc o).alloc o').alloc o2).heap[X.heap.size + 1 + 1]? = some o2 := by
  have h := heap_alloc_new ((X.alloc o).alloc o') o2
  have e : ((X.alloc o).alloc o').heap.size = X.heap.size + 1 + 1 := by simp
  rwa [e] at h
theorem put_at (m m' : Nat → Bool) (k : Nat) (hne : ∀ i, i < 64 → i ≠ k → word m' i = word m i) : (cells m).setIfInBounds k (.int .u64 (word m' k)) = cells m' := by
  apply Array.ext
  · simp [cells]
  · intro i h1 h2
    have hi : i < 64 := by rw [cells_size] at h2; exact h2
    by_cases e : k = i
    · subst e
      simp [cells]
    · simp [cells, Array.getElem_setIfInBounds, e]
      exact_mod_cast (hne i hi (Ne.symm e)).symm
def orF (m m' : Nat → Bool) (n : Nat) : Bool := m n || m' n
def andF (m m' : Nat → Bool) (n : Nat) : Bool := m n && m' n
def minF (m m' : Nat → Bool) (n : Nat) : Bool := m n && !m' n
/-- The first k words done. -/
def part (m r : Nat → Bool) (k : Nat) (n : Nat) : Bool := if n < 64 * k then r n else m n
theorem part_word_lo (m r : Nat → Bool) (k i : Nat) (h : i < k) : word (part m r k) i = word r i := by
  apply word_ext
  intro j hj
  have : 64 * i + j < 64 * k := by omega
  simp [part, this]
theorem part_word_hi (m r : Nat → Bool) (k i : Nat) (h : k ≤ i) : word (part m r k) i = word m i := by
  apply word_ext
  intro j hj
  have : ¬ 64 * i + j < 64 * k := by omega
  simp [part, this]
theorem part_next (m r : Nat → Bool) (k : Nat) : (cells (part m r k)).setIfInBounds k (.int .u64 (word r k)) = cells (part m r (k + 1)) := by
  rw [← part_word_lo m r (k + 1) k (by omega)]
  refine put_at _ _ k (fun i _ hi => ?_)
  by_cases h : i < k
  · rw [part_word_lo _ _ _ _ h, part_word_lo _ _ _ _ (by omega)]
  · rw [part_word_hi _ _ _ _ (by omega), part_word_hi _ _ _ _ (by omega)]
theorem part_all (m r : Nat → Bool) : cells (part m r 64) = cells r := cells_ext (fun n hn => by simp [part, show n < 64 * 64 by omega])
theorem part_none (m r : Nat → Bool) : cells (part m r 0) = cells m := cells_ext (fun n hn => by simp [part])
/-- What stands at a round's head. -/
def OpRel (w : World) (m r : Nat → Bool) (i : Value) (wr : World) : Prop := ∃ k : Nat, k ≤ 64 ∧ i = .int .i64 k ∧ wr.heap[w.heap.size]? = some (.cells (cells (part m r k)) 27 (0, 0)) ∧ wr.heap[w.heap.size + 1 + 1]? = some (.cells noughts 27 (0, 0)) ∧ Below w.heap.size w wr
theorem index_row {cs : Array Value} {k : Nat} {u : Value} (w : World) (h : cs[k]? = some u) (hs : cs.size = 64) (hk : k < 64) : (Instr.index 25 (.agg cs) (.int .i64 k)).run Tryd.prog w = .ok u w := by
  have e : ¬ (k : Int) < 0 := by omega
  simp [go_sem, Instr.index, h, hs, e]
  intro
  omega
theorem or_at (m m' : Nat → Bool) (k : Nat) : bits .or .u64 (word m k : Int) (word m' k : Int) = (word (orF m m') k : Int) := or_word m m' k
set_option maxRecDepth 100000 in
set_option maxHeartbeats 4000000 in
theorem or_any (m m' : Nat → Bool) (w : World) :
    Calls Tryd.prog 24 #[.agg (cells m), .agg (cells m')] w fun e w' => e = .returned (.agg (cells (orF m m'))) ∧ Below w.heap.size w w' := by
  have hsz := cells_size m
  have hsz' := cells_size m'
  obtain ⟨cs, hcs⟩ : ∃ cs, cs = cells m := ⟨_, rfl⟩
  obtain ⟨cs', hcs'⟩ : ∃ cs, cs = cells m' := ⟨_, rfl⟩
  rw [← hcs] at hsz ⊢
  rw [← hcs'] at hsz' ⊢
  have HCS := Lib.hid hcs
  have HCS' := Lib.hid hcs'
  have hi' : (Tryd.prog.info? 25).map (·.size) = some cs'.size := by rw [hsz']; kernel_rfl
  clear hcs hcs'
  go_enter Tryd.func24, Tryd.ntmps24
  go_wp2_with (((with_reducible refine gate_dst (N := 8) rfl ?_); refine Stp.out ?_))
  unfold Stp
  obtain ⟨w2, hw2⟩ : ∃ W_, W_ = ((w.alloc (.cells cs 27)).alloc (.cells cs' 27)).alloc (.cells noughts 27) := ⟨_, rfl⟩
  unfold noughts at hw2
  rw [← hw2]
  have HK1 : Hid (w2.heap[w.heap.size]? = some (.cells cs 27 (0, 0))) := Lib.hid (by rw [hw2]; exact blk_alloc (blk_alloc (heap_alloc_new w _) _) _)
  have HK2 : Hid (w2.heap[w.heap.size + 1]? = some (.cells cs' 27 (0, 0))) := Lib.hid (by rw [hw2]; exact blk_alloc (blk_new1 w _ _) _)
  have HK3 : Hid (w2.heap[w.heap.size + 1 + 1]? = some (.cells noughts 27 (0, 0))) := Lib.hid (by rw [hw2]; exact blk_new2 w _ _ _)
  have HB : Hid (Below w.heap.size w w2) := Lib.hid (by rw [hw2]; exact below_alloc (below_alloc (below_alloc (Below.refl _ _) _) _) _)
  clear hw2
  refine wpList_load_row rfl 25 (.tmp 7) rfl (w.heap.size + 1) rfl 27 cs' (0, 0) _ HK2.out Tryd.underlying25 rfl hi' ?_
  go_wp2_with fail
  go_loopw [9] (fun i wr => OpRel w m (orF m m') i wr) (fun i _ => 64 - (intOf i).toNat)
  case atStart => exact ⟨0, Nat.zero_le _, rfl, by rw [part_none, ← HCS.out]; exact HK1.out, HK3.out, HB.out⟩
  case round =>
    obtain ⟨k, hk, rfl, h1, h2, hb⟩ := hrel
    by_cases hlt : k < 64
    · have hat' := cells_at m' hlt
      have hat : wr.cell? ⟨w.heap.size, k, none⟩ = some (.int .u64 (word m k)) := (blk_cell h1 k).trans (by rw [cells_at _ hlt, part_word_hi _ _ _ _ (Nat.le_refl _)])
      have hfr : wr.frozen? ⟨w.heap.size, k, none⟩ = false := blk_frozen h1 k
      rw [← HCS'.out] at hat'
      have HE := Lib.hid (or_at m m' k)
      obtain ⟨W, hW⟩ : ∃ W, W = word m k := ⟨_, rfl⟩
      obtain ⟨W', hW'⟩ : ∃ W, W = word m' k := ⟨_, rfl⟩
      have l1 := word_lt m k
      have l2 := word_lt m' k
      rw [← hW] at hat HE l1
      rw [← hW'] at hat' HE l2
      have H1 := Lib.hid h1
      have H2 := Lib.hid h2
      have HB2 := Lib.hid hb
      have i0 : (0 : Int) ≤ (k : Int) := by omega
      have i1 : (k : Int) < 64 := by omega
      have hidx : ∀ W_ : World, (Instr.index 25 (.agg cs') (.int .i64 k)).run Tryd.prog W_ = .ok (.int .u64 W') W_ := fun W_ => index_row W_ hat' hsz' hlt
      clear hW hW' h1 h2 hb
      go_wp2_with fail
      refine ⟨⟨k + 1, by omega, by norm_cast, ?_, ?_, ?_⟩, ?_⟩
      · rw [HE.out, ← part_next]
        exact blk_put H1.out _ _ rfl
      · exact (Below.heap_setCell _ _ _ _ (by show w.heap.size + 1 + 1 ≠ w.heap.size; omega)).trans H2.out
      · exact HB2.out.setCell (Nat.le_refl _) _
      · simp [intOf]
        omega
    · obtain rfl : k = 64 := by omega
      rw [part_all] at h1
      have hsz2 := cells_size (orF m m')
      have hone2 := cells_one (orF m m')
      obtain ⟨cs2, hcs2⟩ : ∃ cs, cs = cells (orF m m') := ⟨_, rfl⟩
      rw [← hcs2] at h1 hsz2 hone2
      have HC2 := Lib.hid hcs2
      have hi : (Tryd.prog.info? 27).map (·.size) = some cs2.size := by rw [hsz2]; kernel_rfl
      have HB2 := Lib.hid hb
      have H1 := Lib.hid h1
      have H2 := Lib.hid h2
      clear hcs2 h1 h2 hb
      go_wp2_with (((with_reducible refine gate_dst (N := 22) rfl ?_); refine Stp.out ?_))
      unfold Stp
      refine wpList_load_row rfl 27 (.tmp 2) rfl w.heap.size rfl 27 cs2 (0, 0) _ H1.out Tryd.underlying27 rfl hi ?_
      refine wpList_store_row rfl 27 (.tmp 4) (.tmp 22) rfl (w.heap.size + 1 + 1) cs2 rfl rfl 27 noughts H2.out hi (by rw [hsz2]; rfl) hone2 ?_
      go_wp2_with fail
      refine bodyPost_ret (results_cell_row rfl _ _ (w.heap.size + 1 + 1) 27 cs2 (0, 0) _ rfl (blk_row H2.out) Tryd.underlying27 rfl hi) rfl ?_
      exact ⟨by rw [HC2.out], below_row HB2.out (by omega)⟩
theorem and_at (m m' : Nat → Bool) (k : Nat) : bits .and .u64 (word m k : Int) (word m' k : Int) = (word (andF m m') k : Int) := and_word m m' k
set_option maxRecDepth 100000 in
set_option maxHeartbeats 4000000 in
theorem and_any (m m' : Nat → Bool) (w : World) :
    Calls Tryd.prog 26 #[.agg (cells m), .agg (cells m')] w fun e w' => e = .returned (.agg (cells (andF m m'))) ∧ Below w.heap.size w w' := by
  have hsz := cells_size m
  have hsz' := cells_size m'
  obtain ⟨cs, hcs⟩ : ∃ cs, cs = cells m := ⟨_, rfl⟩
  obtain ⟨cs', hcs'⟩ : ∃ cs, cs = cells m' := ⟨_, rfl⟩
  rw [← hcs] at hsz ⊢
  rw [← hcs'] at hsz' ⊢
  have HCS := Lib.hid hcs
  have HCS' := Lib.hid hcs'
  have hi' : (Tryd.prog.info? 25).map (·.size) = some cs'.size := by rw [hsz']; kernel_rfl
  clear hcs hcs'
  go_enter Tryd.func26, Tryd.ntmps26
  go_wp2_with (((with_reducible refine gate_dst (N := 8) rfl ?_); refine Stp.out ?_))
  unfold Stp
  obtain ⟨w2, hw2⟩ : ∃ W_, W_ = ((w.alloc (.cells cs 27)).alloc (.cells cs' 27)).alloc (.cells noughts 27) := ⟨_, rfl⟩
  unfold noughts at hw2
  rw [← hw2]
  have HK1 : Hid (w2.heap[w.heap.size]? = some (.cells cs 27 (0, 0))) := Lib.hid (by rw [hw2]; exact blk_alloc (blk_alloc (heap_alloc_new w _) _) _)
  have HK2 : Hid (w2.heap[w.heap.size + 1]? = some (.cells cs' 27 (0, 0))) := Lib.hid (by rw [hw2]; exact blk_alloc (blk_new1 w _ _) _)
  have HK3 : Hid (w2.heap[w.heap.size + 1 + 1]? = some (.cells noughts 27 (0, 0))) := Lib.hid (by rw [hw2]; exact blk_new2 w _ _ _)
  have HB : Hid (Below w.heap.size w w2) := Lib.hid (by rw [hw2]; exact below_alloc (below_alloc (below_alloc (Below.refl _ _) _) _) _)
  clear hw2
  refine wpList_load_row rfl 25 (.tmp 7) rfl (w.heap.size + 1) rfl 27 cs' (0, 0) _ HK2.out Tryd.underlying25 rfl hi' ?_
  go_wp2_with fail
  go_loopw [9] (fun i wr => OpRel w m (andF m m') i wr) (fun i _ => 64 - (intOf i).toNat)
  case atStart => exact ⟨0, Nat.zero_le _, rfl, by rw [part_none, ← HCS.out]; exact HK1.out, HK3.out, HB.out⟩
  case round =>
    obtain ⟨k, hk, rfl, h1, h2, hb⟩ := hrel
    by_cases hlt : k < 64
    · have hat' := cells_at m' hlt
      have hat : wr.cell? ⟨w.heap.size, k, none⟩ = some (.int .u64 (word m k)) := (blk_cell h1 k).trans (by rw [cells_at _ hlt, part_word_hi _ _ _ _ (Nat.le_refl _)])
      have hfr : wr.frozen? ⟨w.heap.size, k, none⟩ = false := blk_frozen h1 k
      rw [← HCS'.out] at hat'
      have HE := Lib.hid (and_at m m' k)
      obtain ⟨W, hW⟩ : ∃ W, W = word m k := ⟨_, rfl⟩
      obtain ⟨W', hW'⟩ : ∃ W, W = word m' k := ⟨_, rfl⟩
      have l1 := word_lt m k
      have l2 := word_lt m' k
      rw [← hW] at hat HE l1
      rw [← hW'] at hat' HE l2
      have H1 := Lib.hid h1
      have H2 := Lib.hid h2
      have HB2 := Lib.hid hb
      have i0 : (0 : Int) ≤ (k : Int) := by omega
      have i1 : (k : Int) < 64 := by omega
      have hidx : ∀ W_ : World, (Instr.index 25 (.agg cs') (.int .i64 k)).run Tryd.prog W_ = .ok (.int .u64 W') W_ := fun W_ => index_row W_ hat' hsz' hlt
      clear hW hW' h1 h2 hb
      go_wp2_with fail
      refine ⟨⟨k + 1, by omega, by norm_cast, ?_, ?_, ?_⟩, ?_⟩
      · rw [HE.out, ← part_next]
        exact blk_put H1.out _ _ rfl
      · exact (Below.heap_setCell _ _ _ _ (by show w.heap.size + 1 + 1 ≠ w.heap.size; omega)).trans H2.out
      · exact HB2.out.setCell (Nat.le_refl _) _
      · simp [intOf]
        omega
    · obtain rfl : k = 64 := by omega
      rw [part_all] at h1
      have hsz2 := cells_size (andF m m')
      have hone2 := cells_one (andF m m')
      obtain ⟨cs2, hcs2⟩ : ∃ cs, cs = cells (andF m m') := ⟨_, rfl⟩
      rw [← hcs2] at h1 hsz2 hone2
      have HC2 := Lib.hid hcs2
      have hi : (Tryd.prog.info? 27).map (·.size) = some cs2.size := by rw [hsz2]; kernel_rfl
      have HB2 := Lib.hid hb
      have H1 := Lib.hid h1
      have H2 := Lib.hid h2
      clear hcs2 h1 h2 hb
      go_wp2_with (((with_reducible refine gate_dst (N := 22) rfl ?_); refine Stp.out ?_))
      unfold Stp
      refine wpList_load_row rfl 27 (.tmp 2) rfl w.heap.size rfl 27 cs2 (0, 0) _ H1.out Tryd.underlying27 rfl hi ?_
      refine wpList_store_row rfl 27 (.tmp 4) (.tmp 22) rfl (w.heap.size + 1 + 1) cs2 rfl rfl 27 noughts H2.out hi (by rw [hsz2]; rfl) hone2 ?_
      go_wp2_with fail
      refine bodyPost_ret (results_cell_row rfl _ _ (w.heap.size + 1 + 1) 27 cs2 (0, 0) _ rfl (blk_row H2.out) Tryd.underlying27 rfl hi) rfl ?_
      exact ⟨by rw [HC2.out], below_row HB2.out (by omega)⟩
theorem minus_at (m m' : Nat → Bool) (k : Nat) : bits .andNot .u64 (word m k : Int) (word m' k : Int) = (word (minF m m') k : Int) := andNot_word m m' k
set_option maxRecDepth 100000 in
set_option maxHeartbeats 4000000 in
theorem minus_any (m m' : Nat → Bool) (w : World) :
    Calls Tryd.prog 27 #[.agg (cells m), .agg (cells m')] w fun e w' => e = .returned (.agg (cells (minF m m'))) ∧ Below w.heap.size w w' := by
  have hsz := cells_size m
  have hsz' := cells_size m'
  obtain ⟨cs, hcs⟩ : ∃ cs, cs = cells m := ⟨_, rfl⟩
  obtain ⟨cs', hcs'⟩ : ∃ cs, cs = cells m' := ⟨_, rfl⟩
  rw [← hcs] at hsz ⊢
  rw [← hcs'] at hsz' ⊢
  have HCS := Lib.hid hcs
  have HCS' := Lib.hid hcs'
  have hi' : (Tryd.prog.info? 25).map (·.size) = some cs'.size := by rw [hsz']; kernel_rfl
  clear hcs hcs'
  go_enter Tryd.func27, Tryd.ntmps27
  go_wp2_with (((with_reducible refine gate_dst (N := 8) rfl ?_); refine Stp.out ?_))
  unfold Stp
  obtain ⟨w2, hw2⟩ : ∃ W_, W_ = ((w.alloc (.cells cs 27)).alloc (.cells cs' 27)).alloc (.cells noughts 27) := ⟨_, rfl⟩
  unfold noughts at hw2
  rw [← hw2]
  have HK1 : Hid (w2.heap[w.heap.size]? = some (.cells cs 27 (0, 0))) := Lib.hid (by rw [hw2]; exact blk_alloc (blk_alloc (heap_alloc_new w _) _) _)
  have HK2 : Hid (w2.heap[w.heap.size + 1]? = some (.cells cs' 27 (0, 0))) := Lib.hid (by rw [hw2]; exact blk_alloc (blk_new1 w _ _) _)
  have HK3 : Hid (w2.heap[w.heap.size + 1 + 1]? = some (.cells noughts 27 (0, 0))) := Lib.hid (by rw [hw2]; exact blk_new2 w _ _ _)
  have HB : Hid (Below w.heap.size w w2) := Lib.hid (by rw [hw2]; exact below_alloc (below_alloc (below_alloc (Below.refl _ _) _) _) _)
  clear hw2
  refine wpList_load_row rfl 25 (.tmp 7) rfl (w.heap.size + 1) rfl 27 cs' (0, 0) _ HK2.out Tryd.underlying25 rfl hi' ?_
  go_wp2_with fail
  go_loopw [9] (fun i wr => OpRel w m (minF m m') i wr) (fun i _ => 64 - (intOf i).toNat)
  case atStart => exact ⟨0, Nat.zero_le _, rfl, by rw [part_none, ← HCS.out]; exact HK1.out, HK3.out, HB.out⟩
  case round =>
    obtain ⟨k, hk, rfl, h1, h2, hb⟩ := hrel
    by_cases hlt : k < 64
    · have hat' := cells_at m' hlt
      have hat : wr.cell? ⟨w.heap.size, k, none⟩ = some (.int .u64 (word m k)) := (blk_cell h1 k).trans (by rw [cells_at _ hlt, part_word_hi _ _ _ _ (Nat.le_refl _)])
      have hfr : wr.frozen? ⟨w.heap.size, k, none⟩ = false := blk_frozen h1 k
      rw [← HCS'.out] at hat'
      have HE := Lib.hid (minus_at m m' k)
      obtain ⟨W, hW⟩ : ∃ W, W = word m k := ⟨_, rfl⟩
      obtain ⟨W', hW'⟩ : ∃ W, W = word m' k := ⟨_, rfl⟩
      have l1 := word_lt m k
      have l2 := word_lt m' k
      rw [← hW] at hat HE l1
      rw [← hW'] at hat' HE l2
      have H1 := Lib.hid h1
      have H2 := Lib.hid h2
      have HB2 := Lib.hid hb
      have i0 : (0 : Int) ≤ (k : Int) := by omega
      have i1 : (k : Int) < 64 := by omega
      have hidx : ∀ W_ : World, (Instr.index 25 (.agg cs') (.int .i64 k)).run Tryd.prog W_ = .ok (.int .u64 W') W_ := fun W_ => index_row W_ hat' hsz' hlt
      clear hW hW' h1 h2 hb
      go_wp2_with fail
      refine ⟨⟨k + 1, by omega, by norm_cast, ?_, ?_, ?_⟩, ?_⟩
      · rw [HE.out, ← part_next]
        exact blk_put H1.out _ _ rfl
      · exact (Below.heap_setCell _ _ _ _ (by show w.heap.size + 1 + 1 ≠ w.heap.size; omega)).trans H2.out
      · exact HB2.out.setCell (Nat.le_refl _) _
      · simp [intOf]
        omega
    · obtain rfl : k = 64 := by omega
      rw [part_all] at h1
      have hsz2 := cells_size (minF m m')
      have hone2 := cells_one (minF m m')
      obtain ⟨cs2, hcs2⟩ : ∃ cs, cs = cells (minF m m') := ⟨_, rfl⟩
      rw [← hcs2] at h1 hsz2 hone2
      have HC2 := Lib.hid hcs2
      have hi : (Tryd.prog.info? 27).map (·.size) = some cs2.size := by rw [hsz2]; kernel_rfl
      have HB2 := Lib.hid hb
      have H1 := Lib.hid h1
      have H2 := Lib.hid h2
      clear hcs2 h1 h2 hb
      go_wp2_with (((with_reducible refine gate_dst (N := 22) rfl ?_); refine Stp.out ?_))
      unfold Stp
      refine wpList_load_row rfl 27 (.tmp 2) rfl w.heap.size rfl 27 cs2 (0, 0) _ H1.out Tryd.underlying27 rfl hi ?_
      refine wpList_store_row rfl 27 (.tmp 4) (.tmp 22) rfl (w.heap.size + 1 + 1) cs2 rfl rfl 27 noughts H2.out hi (by rw [hsz2]; rfl) hone2 ?_
      go_wp2_with fail
      refine bodyPost_ret (results_cell_row rfl _ _ (w.heap.size + 1 + 1) 27 cs2 (0, 0) _ rfl (blk_row H2.out) Tryd.underlying27 rfl hi) rfl ?_
      exact ⟨by rw [HC2.out], below_row HB2.out (by omega)⟩
end Go.Proofs.YtjcppnleoahaiaaDoor.P
