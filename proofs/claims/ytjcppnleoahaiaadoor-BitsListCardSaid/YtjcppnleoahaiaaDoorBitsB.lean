/- bits.Set: With, Without. -/
import Derived.Test.YtjcppnleoahaiaaDoorBitsA
import Derived.Laws.Tables
import Derived.RegionTactic
import Derived.BigRegion
namespace Go.Proofs.YtjcppnleoahaiaaDoor.P
open Go.RowKit Go.Proofs.YtjcppnleoahaiaaDoorW.PrintWords Go.Proofs.YtjcppnleoahaiaaDoorW.PrintLast Go.Proofs.YtjcppnleoahaiaaDoorW.PrintMore
set_option linter.unusedVariables false
set_option linter.unusedSimpArgs false
def Stp (p : Prop) : Prop := p
theorem Stp.out {p : Prop} (h : Stp p) : p := h
def noughts : Array Value := #[.int .u64 0, .int .u64 0, .int .u64 0, .int .u64 0, .int .u64 0, .int .u64 0, .int .u64 0, .int .u64 0, .int .u64 0, .int .u64 0, .int .u64 0, .int .u64 0, .int .u64 0, .int .u64 0, .int .u64 0, .int .u64 0, .int .u64 0, .int .u64 0, .int .u64 0, .int .u64 0, .int .u64 0, .int .u64 0, .int .u64 0, .int .u64 0, .int .u64 0, .int .u64 0, .int .u64 0, .int .u64 0, .int .u64 0, .int .u64 0, .int .u64 0, .int .u64 0, .int .u64 0, .int .u64 0, .int .u64 0, .int .u64 0, .int .u64 0, .int .u64 0, .int .u64 0, .int .u64 0, .int .u64 0, .int .u64 0, .int .u64 0, .int .u64 0, .int .u64 0, .int .u64 0, .int .u64 0, .int .u64 0, .int .u64 0, .int .u64 0, .int .u64 0, .int .u64 0, .int .u64 0, .int .u64 0, .int .u64 0, .int .u64 0, .int .u64 0, .int .u64 0, .int .u64 0, .int .u64 0, .int .u64 0, .int .u64 0, .int .u64 0, .int .u64 0]
theorem noughts_size : noughts.size = 64 := by decide
theorem cells_one (m : Nat → Bool) : (cells m).all (·.oneCell') = true := by
  simp [cells, Value.oneCell']
theorem blk_new1 (X : World) (o o' : Obj) : ((X.alloc o).alloc o').heap[X.heap.size + 1]? = some o' := by
  have h := heap_alloc_new (X.alloc o) o'
  have e : (X.alloc o).heap.size = X.heap.size + 1 := by simp
  rwa [e] at h
theorem blk_row {w : World} {g : Nat} {cs old : Array Value} {t : TypeId} (h : w.heap[g]? = some (.cells old t (0, 0))) : (w.setRow g cs).heap[g]? = some (.cells cs t (0, 0)) := by
  simp [World.setRow, Array.getElem?_modify, h]
theorem row_other {w : World} {g k : Nat} {cs : Array Value} (h : k ≠ g) : (w.setRow g cs).heap[k]? = w.heap[k]? := by
  simp [World.setRow, Array.getElem?_modify, Ne.symm h]
theorem below_row {n g : Nat} {w W : World} {cs : Array Value} (h : Below n w W) (hg : n ≤ g) : Below n w (W.setRow g cs) :=
  ⟨h.os, h.tape, h.output, by simpa [World.setRow] using h.size, fun k hk => (row_other (by omega)).trans (h.block k hk)⟩
theorem put_word (m m' : Nat → Bool) (n : Nat) (hn : n < 4096) (hne : ∀ i, i < 64 → i ≠ n / 64 → word m' i = word m i) : (cells m).setIfInBounds (n / 64) (.int .u64 (word m' (n / 64))) = cells m' := by
  apply Array.ext
  · simp [cells]
  · intro i h1 h2
    have hi : i < 64 := by rw [cells_size] at h2; exact h2
    by_cases e : n / 64 = i
    · subst e
      simp [cells]
    · simp [cells, Array.getElem_setIfInBounds, e]
      exact_mod_cast (hne i hi (Ne.symm e)).symm
def withF (m : Nat → Bool) (n : Nat) (k : Nat) : Bool := m k || decide (k = n)
def outF (m : Nat → Bool) (n : Nat) (k : Nat) : Bool := m k && !decide (k = n)
theorem with_word (m : Nat → Bool) (n W : Nat) (hn : n < 4096) (h : W = word m (n / 64)) : bits .or .u64 (W : Int) (2 ^ (n % 64)) = (word (withF m n) (n / 64) : Int) := by
  have e : ((2 : Int) ^ (n % 64)) = ((2 ^ (n % 64) : Nat) : Int) := by push_cast; rfl
  rw [e, one_word n hn, h, or_word]
  rfl
theorem out_word (m : Nat → Bool) (n W : Nat) (hn : n < 4096) (h : W = word m (n / 64)) : bits .andNot .u64 (W : Int) (2 ^ (n % 64)) = (word (outF m n) (n / 64) : Int) := by
  have e : ((2 : Int) ^ (n % 64)) = ((2 ^ (n % 64) : Nat) : Int) := by push_cast; rfl
  rw [e, one_word n hn, h, andNot_word]
  rfl
theorem pow_wrap (n : Nat) : IntKind.u64.wrap (2 ^ (n % 64)) = 2 ^ (n % 64) := by
  have h1 : n % 64 ≤ 63 := by omega
  have h2 : (2 : Nat) ^ (n % 64) ≤ 2 ^ 63 := Nat.pow_le_pow_right (by omega) h1
  have e : ((2 : Int) ^ (n % 64)) = ((2 ^ (n % 64) : Nat) : Int) := by push_cast; rfl
  obtain ⟨p, hp⟩ : ∃ p : Nat, p = 2 ^ (n % 64) := ⟨_, rfl⟩
  rw [e, ← hp, IntKind.wrap_u64]
  rw [← hp] at h2
  omega
theorem with_other (m : Nat → Bool) (n i : Nat) (h : i ≠ n / 64) : word (withF m n) i = word m i := by
  apply word_ext
  intro j hj
  have : 64 * i + j ≠ n := by omega
  simp [withF, this]
theorem out_other (m : Nat → Bool) (n i : Nat) (h : i ≠ n / 64) : word (outF m n) i = word m i := by
  apply word_ext
  intro j hj
  have : 64 * i + j ≠ n := by omega
  simp [outF, this]
theorem cell_drew_ {X : World} {a : Addr} {v : Value} (h : X.cell? a = some v) : X.drew.cell? a = some v := h
set_option maxRecDepth 100000 in
set_option maxHeartbeats 2000000 in
theorem with_no (m : Nat → Bool) (n : Int) (w : World) (h : ¬ (0 ≤ n ∧ n < 4096)) :
    Calls Tryd.prog 13 #[.agg (cells m), .int .i64 n] w fun e w' => e = .returned (.agg (cells m)) ∧ Below w.heap.size w w' := by
  have hsz := cells_size m
  have hone := cells_one m
  obtain ⟨cs, hcs⟩ : ∃ cs, cs = cells m := ⟨_, rfl⟩
  rw [← hcs] at hsz hone ⊢
  clear hcs
  have HW := Lib.hid (within_no h)
  have hi : (Tryd.prog.info? 27).map (·.size) = some cs.size := by rw [hsz]; kernel_rfl
  clear h
  go_enter Tryd.func13, Tryd.ntmps13
  go_wp2_with fail
  obtain ⟨w2, hw2⟩ : ∃ W_, W_ = (w.alloc (.cells cs 27)).alloc (.cells noughts 27) := ⟨_, rfl⟩
  unfold noughts at hw2
  rw [← hw2]
  have K1 : w2.heap[w.heap.size]? = some (.cells cs 27 (0, 0)) := by rw [hw2]; exact blk_alloc (heap_alloc_new w _) _
  have K2 : w2.heap[w.heap.size + 1]? = some (.cells noughts 27 (0, 0)) := by rw [hw2]; exact blk_new1 w _ _
  have B2 : Below w.heap.size w w2 := by rw [hw2]; exact below_alloc (below_alloc (Below.refl _ _) _) _
  have HK1 := Lib.hid K1
  have HK2 := Lib.hid K2
  clear hw2 K1 K2
  refine (within_call n false _ HW.out).mono ?_
  rintro e w3 ⟨rfl, hb⟩
  have HK3 := Lib.hid (blk_below HK1.out hb)
  have HK4 := Lib.hid (blk_below HK2.out hb)
  have HB := Lib.hid (below_step B2 hb)
  clear HK1 HK2 hb B2
  go_wp2_with (((with_reducible refine gate_dst (N := 18) rfl ?_); refine Stp.out ?_))
  unfold Stp
  refine wpList_load_row rfl 27 (.tmp 2) rfl w.heap.size rfl 27 cs (0, 0) _ HK3.out Tryd.underlying27 rfl hi ?_
  refine wpList_store_row rfl 27 (.tmp 4) (.tmp 18) rfl (w.heap.size + 1) cs rfl rfl 27 noughts HK4.out hi (by rw [hsz]; rfl) hone ?_
  go_wp2_with fail
  refine bodyPost_ret (results_cell_row rfl _ _ (w.heap.size + 1) 27 cs (0, 0) _ rfl (blk_row HK4.out) Tryd.underlying27 rfl hi) rfl ?_
  exact ⟨rfl, below_row HB.out (by omega)⟩
set_option maxRecDepth 100000 in
set_option maxHeartbeats 2000000 in
theorem out_no (m : Nat → Bool) (n : Int) (w : World) (h : ¬ (0 ≤ n ∧ n < 4096)) :
    Calls Tryd.prog 15 #[.agg (cells m), .int .i64 n] w fun e w' => e = .returned (.agg (cells m)) ∧ Below w.heap.size w w' := by
  have hsz := cells_size m
  have hone := cells_one m
  obtain ⟨cs, hcs⟩ : ∃ cs, cs = cells m := ⟨_, rfl⟩
  rw [← hcs] at hsz hone ⊢
  clear hcs
  have HW := Lib.hid (within_no h)
  have hi : (Tryd.prog.info? 27).map (·.size) = some cs.size := by rw [hsz]; kernel_rfl
  clear h
  go_enter Tryd.func15, Tryd.ntmps15
  go_wp2_with fail
  obtain ⟨w2, hw2⟩ : ∃ W_, W_ = (w.alloc (.cells cs 27)).alloc (.cells noughts 27) := ⟨_, rfl⟩
  unfold noughts at hw2
  rw [← hw2]
  have K1 : w2.heap[w.heap.size]? = some (.cells cs 27 (0, 0)) := by rw [hw2]; exact blk_alloc (heap_alloc_new w _) _
  have K2 : w2.heap[w.heap.size + 1]? = some (.cells noughts 27 (0, 0)) := by rw [hw2]; exact blk_new1 w _ _
  have B2 : Below w.heap.size w w2 := by rw [hw2]; exact below_alloc (below_alloc (Below.refl _ _) _) _
  have HK1 := Lib.hid K1
  have HK2 := Lib.hid K2
  clear hw2 K1 K2
  refine (within_call n false _ HW.out).mono ?_
  rintro e w3 ⟨rfl, hb⟩
  have HK3 := Lib.hid (blk_below HK1.out hb)
  have HK4 := Lib.hid (blk_below HK2.out hb)
  have HB := Lib.hid (below_step B2 hb)
  clear HK1 HK2 hb B2
  go_wp2_with (((with_reducible refine gate_dst (N := 18) rfl ?_); refine Stp.out ?_))
  unfold Stp
  refine wpList_load_row rfl 27 (.tmp 2) rfl w.heap.size rfl 27 cs (0, 0) _ HK3.out Tryd.underlying27 rfl hi ?_
  refine wpList_store_row rfl 27 (.tmp 4) (.tmp 18) rfl (w.heap.size + 1) cs rfl rfl 27 noughts HK4.out hi (by rw [hsz]; rfl) hone ?_
  go_wp2_with fail
  refine bodyPost_ret (results_cell_row rfl _ _ (w.heap.size + 1) 27 cs (0, 0) _ rfl (blk_row HK4.out) Tryd.underlying27 rfl hi) rfl ?_
  exact ⟨rfl, below_row HB.out (by omega)⟩
set_option maxRecDepth 100000 in
set_option maxHeartbeats 2000000 in
theorem with_yes (m : Nat → Bool) (n : Nat) (w : World) (h : n < 4096) :
    Calls Tryd.prog 13 #[.agg (cells m), .int .i64 n] w fun e w' => e = .returned (.agg (cells (withF m n))) ∧ Below w.heap.size w w' := by
  have hsz := cells_size m
  have hat := cells_at m (i := n / 64) (by omega)
  obtain ⟨W, hW⟩ : ∃ W, W = word m (n / 64) := ⟨_, rfl⟩
  have hWl := word_lt m (n / 64)
  rw [← hW] at hat hWl
  have hput : Hid ((cells m).setIfInBounds (n / 64) (.int .u64 (word (withF m n) (n / 64))) = cells (withF m n)) := Lib.hid (put_word m _ n h (fun i _ hi => with_other m n i hi))
  have hsz2 := cells_size (withF m n)
  have hone2 := cells_one (withF m n)
  obtain ⟨cs2, hcs2⟩ : ∃ cs, cs = cells (withF m n) := ⟨_, rfl⟩
  rw [← hcs2] at hput hsz2 hone2 ⊢
  obtain ⟨cs, hcs⟩ : ∃ cs, cs = cells m := ⟨_, rfl⟩
  rw [← hcs] at hsz hat hput ⊢
  have HW := Lib.hid (within_yes h)
  have HV := Lib.hid (with_word m n W h hW)
  have hi : (Tryd.prog.info? 27).map (·.size) = some cs2.size := by rw [hsz2]; kernel_rfl
  clear hcs hcs2 hW
  go_enter Tryd.func13, Tryd.ntmps13
  go_wp2_with fail
  obtain ⟨w2, hw2⟩ : ∃ W_, W_ = (w.alloc (.cells cs 27)).alloc (.cells noughts 27) := ⟨_, rfl⟩
  unfold noughts at hw2
  rw [← hw2]
  have K1 : w2.heap[w.heap.size]? = some (.cells cs 27 (0, 0)) := by rw [hw2]; exact blk_alloc (heap_alloc_new w _) _
  have K2 : w2.heap[w.heap.size + 1]? = some (.cells noughts 27 (0, 0)) := by rw [hw2]; exact blk_new1 w _ _
  have B2 : Below w.heap.size w w2 := by rw [hw2]; exact below_alloc (below_alloc (Below.refl _ _) _) _
  have HK1 := Lib.hid K1
  have HK2 := Lib.hid K2
  clear hw2 K1 K2
  refine (within_call n true _ HW.out).mono ?_
  rintro e w3 ⟨rfl, hb⟩
  have HK3 := Lib.hid (blk_below HK1.out hb)
  have HK4 := Lib.hid (blk_below HK2.out hb)
  have HB := Lib.hid (below_step B2 hb)
  have cw : w3.cell? ⟨w.heap.size, n / 64, none⟩ = some (.int .u64 W) := (blk_cell HK3.out (n / 64)).trans hat
  have fw : w3.frozen? ⟨w.heap.size, n / 64, none⟩ = false := blk_frozen HK3.out (n / 64)
  have i0 : (0 : Int) ≤ (n : Int) / 64 := by omega
  have i1 : (n : Int) / 64 < 64 := by omega
  clear HK1 HK2 hb B2 hat
  go_wp2_with fail
  go_region
  have e1 : IntKind.u64.wrap (2 ^ (n % 64)) = 2 ^ (n % 64) := pow_wrap n
  rw [e1, HV.out]
  obtain ⟨w4, hw4⟩ : ∃ W_, W_ = (w3.setCell ⟨w.heap.size, n / 64, none⟩ (.int .u64 (word (withF m n) (n / 64)))).drew := ⟨_, rfl⟩
  rw [← hw4]
  have HK5 : Hid (w4.heap[w.heap.size]? = some (.cells cs2 27 (0, 0))) := Lib.hid (by rw [hw4, ← hput.out]; exact blk_put HK3.out _ _ rfl)
  have HK6 : Hid (w4.heap[w.heap.size + 1]? = some (.cells noughts 27 (0, 0))) := Lib.hid (by rw [hw4]; exact (Below.heap_setCell _ _ _ _ (Nat.succ_ne_self _)).trans HK4.out)
  have HB4 : Hid (Below w.heap.size w w4) := Lib.hid (by rw [hw4]; exact below_drew (HB.out.setCell (Nat.le_refl _) _))
  clear hw4 cw fw e1
  go_wp2_with (((with_reducible refine gate_dst (N := 18) rfl ?_); refine Stp.out ?_))
  unfold Stp
  refine wpList_load_row rfl 27 (.tmp 2) rfl w.heap.size rfl 27 cs2 (0, 0) _ HK5.out Tryd.underlying27 rfl hi ?_
  refine wpList_store_row rfl 27 (.tmp 4) (.tmp 18) rfl (w.heap.size + 1) cs2 rfl rfl 27 noughts HK6.out hi (by rw [hsz2]; rfl) hone2 ?_
  go_wp2_with fail
  refine bodyPost_ret (results_cell_row rfl _ _ (w.heap.size + 1) 27 cs2 (0, 0) _ rfl (blk_row HK6.out) Tryd.underlying27 rfl hi) rfl ?_
  exact ⟨rfl, below_row HB4.out (by omega)⟩
set_option maxRecDepth 100000 in
set_option maxHeartbeats 2000000 in
theorem out_yes (m : Nat → Bool) (n : Nat) (w : World) (h : n < 4096) :
    Calls Tryd.prog 15 #[.agg (cells m), .int .i64 n] w fun e w' => e = .returned (.agg (cells (outF m n))) ∧ Below w.heap.size w w' := by
  have hsz := cells_size m
  have hat := cells_at m (i := n / 64) (by omega)
  obtain ⟨W, hW⟩ : ∃ W, W = word m (n / 64) := ⟨_, rfl⟩
  have hWl := word_lt m (n / 64)
  rw [← hW] at hat hWl
  have hput : Hid ((cells m).setIfInBounds (n / 64) (.int .u64 (word (outF m n) (n / 64))) = cells (outF m n)) := Lib.hid (put_word m _ n h (fun i _ hi => out_other m n i hi))
  have hsz2 := cells_size (outF m n)
  have hone2 := cells_one (outF m n)
  obtain ⟨cs2, hcs2⟩ : ∃ cs, cs = cells (outF m n) := ⟨_, rfl⟩
  rw [← hcs2] at hput hsz2 hone2 ⊢
  obtain ⟨cs, hcs⟩ : ∃ cs, cs = cells m := ⟨_, rfl⟩
  rw [← hcs] at hsz hat hput ⊢
  have HW := Lib.hid (within_yes h)
  have HV := Lib.hid (out_word m n W h hW)
  have hi : (Tryd.prog.info? 27).map (·.size) = some cs2.size := by rw [hsz2]; kernel_rfl
  clear hcs hcs2 hW
  go_enter Tryd.func15, Tryd.ntmps15
  go_wp2_with fail
  obtain ⟨w2, hw2⟩ : ∃ W_, W_ = (w.alloc (.cells cs 27)).alloc (.cells noughts 27) := ⟨_, rfl⟩
  unfold noughts at hw2
  rw [← hw2]
  have K1 : w2.heap[w.heap.size]? = some (.cells cs 27 (0, 0)) := by rw [hw2]; exact blk_alloc (heap_alloc_new w _) _
  have K2 : w2.heap[w.heap.size + 1]? = some (.cells noughts 27 (0, 0)) := by rw [hw2]; exact blk_new1 w _ _
  have B2 : Below w.heap.size w w2 := by rw [hw2]; exact below_alloc (below_alloc (Below.refl _ _) _) _
  have HK1 := Lib.hid K1
  have HK2 := Lib.hid K2
  clear hw2 K1 K2
  refine (within_call n true _ HW.out).mono ?_
  rintro e w3 ⟨rfl, hb⟩
  have HK3 := Lib.hid (blk_below HK1.out hb)
  have HK4 := Lib.hid (blk_below HK2.out hb)
  have HB := Lib.hid (below_step B2 hb)
  have cw : w3.cell? ⟨w.heap.size, n / 64, none⟩ = some (.int .u64 W) := (blk_cell HK3.out (n / 64)).trans hat
  have fw : w3.frozen? ⟨w.heap.size, n / 64, none⟩ = false := blk_frozen HK3.out (n / 64)
  have i0 : (0 : Int) ≤ (n : Int) / 64 := by omega
  have i1 : (n : Int) / 64 < 64 := by omega
  clear HK1 HK2 hb B2 hat
  go_wp2_with fail
  go_region
  have e1 : IntKind.u64.wrap (2 ^ (n % 64)) = 2 ^ (n % 64) := pow_wrap n
  rw [e1, HV.out]
  obtain ⟨w4, hw4⟩ : ∃ W_, W_ = (w3.setCell ⟨w.heap.size, n / 64, none⟩ (.int .u64 (word (outF m n) (n / 64)))).drew := ⟨_, rfl⟩
  rw [← hw4]
  have HK5 : Hid (w4.heap[w.heap.size]? = some (.cells cs2 27 (0, 0))) := Lib.hid (by rw [hw4, ← hput.out]; exact blk_put HK3.out _ _ rfl)
  have HK6 : Hid (w4.heap[w.heap.size + 1]? = some (.cells noughts 27 (0, 0))) := Lib.hid (by rw [hw4]; exact (Below.heap_setCell _ _ _ _ (Nat.succ_ne_self _)).trans HK4.out)
  have HB4 : Hid (Below w.heap.size w w4) := Lib.hid (by rw [hw4]; exact below_drew (HB.out.setCell (Nat.le_refl _) _))
  clear hw4 cw fw e1
  go_wp2_with (((with_reducible refine gate_dst (N := 18) rfl ?_); refine Stp.out ?_))
  unfold Stp
  refine wpList_load_row rfl 27 (.tmp 2) rfl w.heap.size rfl 27 cs2 (0, 0) _ HK5.out Tryd.underlying27 rfl hi ?_
  refine wpList_store_row rfl 27 (.tmp 4) (.tmp 18) rfl (w.heap.size + 1) cs2 rfl rfl 27 noughts HK6.out hi (by rw [hsz2]; rfl) hone2 ?_
  go_wp2_with fail
  refine bodyPost_ret (results_cell_row rfl _ _ (w.heap.size + 1) 27 cs2 (0, 0) _ rfl (blk_row HK6.out) Tryd.underlying27 rfl hi) rfl ?_
  exact ⟨rfl, below_row HB4.out (by omega)⟩
end Go.Proofs.YtjcppnleoahaiaaDoor.P
