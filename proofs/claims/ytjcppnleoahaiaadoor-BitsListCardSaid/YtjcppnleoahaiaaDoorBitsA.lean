/- bits.Set: what a set is in memory; Has, With, Without. -/
import Derived.Test.YtjcppnleoahaiaaDoorPf37
import Derived.Test.YtjcppnleoahaiaaDoorBitsP
import Derived.Lib.Hide
import Derived.Outline
import Derived.BigQuiet
import Derived.LoopTactic
import Derived.Deep.RegionHeld3
namespace Go.Proofs.YtjcppnleoahaiaaDoor.P
open Go.RowKit Go.Proofs.YtjcppnleoahaiaaDoorW.PrintWords Go.Proofs.YtjcppnleoahaiaaDoorW.PrintLast Go.Proofs.YtjcppnleoahaiaaDoorW.PrintMore
set_option linter.unusedVariables false
set_option linter.unusedSimpArgs false
/-- The 64 words of a set. -/
def cells (m : Nat → Bool) : Array Value := ((List.range 64).map fun i => Value.int .u64 (word m i)).toArray
theorem cells_size (m : Nat → Bool) : (cells m).size = 64 := by simp [cells]
theorem cells_at (m : Nat → Bool) {i : Nat} (h : i < 64) : (cells m)[i]? = some (.int .u64 (word m i)) := by simp [cells, h]
theorem cells_ext {m m' : Nat → Bool} (h : ∀ n, n < 4096 → m n = m' n) : cells m = cells m' := by
  unfold cells
  congr 1
  apply List.map_congr_left
  intro i hi
  have hi' : i < 64 := by simpa using hi
  rw [word_ext (fun j hj => h (64 * i + j) (by omega))]
theorem within_no {n : Int} (h : ¬ (0 ≤ n ∧ n < 4096)) : bits_within.f n = some false := by
  unfold bits_within.f
  by_cases h0 : n ≥ 0
  · rw [if_pos h0]
    simp; omega
  · rw [if_neg h0]
theorem within_yes {n : Nat} (h : n < 4096) : bits_within.f (n : Int) = some true := by
  unfold bits_within.f
  rw [if_pos (by omega)]
  simp; omega
theorem within_call (n : Int) (r : Bool) (w : World) (h : bits_within.f n = some r) : Calls Tryd.prog 37 #[.int .i64 n] w fun e w' => e = .returned (.bool r) ∧ Below w.heap.size w w' :=
  (bits_within.calls n r w h).mono fun _ _ hh => ⟨hh.1, hh.2.below⟩
set_option maxRecDepth 100000 in
set_option maxHeartbeats 2000000 in
theorem has_no (m : Nat → Bool) (n : Int) (w : World) (h : ¬ (0 ≤ n ∧ n < 4096)) :
    Calls Tryd.prog 17 #[.agg (cells m), .int .i64 n] w fun e w' => e = .returned (.bool false) ∧ Below w.heap.size w w' := by
  have hsz := cells_size m
  obtain ⟨cs, hcs⟩ : ∃ cs, cs = cells m := ⟨_, rfl⟩
  rw [← hcs] at hsz ⊢
  clear hcs
  have HW := Lib.hid (within_no h)
  clear h
  go_enter Tryd.func17, Tryd.ntmps17
  go_wp2_with fail
  refine (within_call n false _ HW.out).mono ?_
  rintro e w1 ⟨rfl, hb⟩
  go_wp2_with fail
  go_ret
  exact ⟨rfl, below_step (below_alloc (Below.refl _ _) _) hb⟩
theorem has_bit (m : Nat → Bool) (n W : Nat) (h : W = word m (n / 64)) (hl : W < 18446744073709551616) : (bits .and .u64 ((W : Int) / 2 ^ (n % 64)) 1 == 1) = m n := by
  have e : (W : Int) / 2 ^ (n % 64) = ((W / 2 ^ (n % 64) : Nat) : Int) := by push_cast; rfl
  have hd : W / 2 ^ (n % 64) < 18446744073709551616 := Nat.lt_of_le_of_lt (Nat.div_le_self _ _) hl
  have e1 : (1 : Int) = ((1 : Nat) : Int) := rfl
  rw [e]
  conv => lhs; rw [e1]
  rw [bits_and_u64_nat _ _ hd (by decide), Nat.and_one_is_mod]
  have hb := word_bit m (n / 64) (n % 64)
  have e2 : 64 * (n / 64) + n % 64 = n := Nat.div_add_mod n 64
  have hm : n % 64 < 64 := Nat.mod_lt _ (by omega)
  rw [← h, e2, Nat.testBit_eq_decide_div_mod_eq] at hb
  simp only [hm, decide_true, Bool.true_and] at hb
  rw [← hb]
  by_cases h1 : W / 2 ^ (n % 64) % 2 = 1
  · simp [h1]
  · have h0 : W / 2 ^ (n % 64) % 2 = 0 := by omega
    simp [h0]
set_option maxRecDepth 100000 in
set_option maxHeartbeats 2000000 in
theorem has_yes (m : Nat → Bool) (n : Nat) (w : World) (h : n < 4096) :
    Calls Tryd.prog 17 #[.agg (cells m), .int .i64 n] w fun e w' => e = .returned (.bool (m n)) ∧ Below w.heap.size w w' := by
  have hsz := cells_size m
  have hat := cells_at m (i := n / 64) (by omega)
  obtain ⟨W, hW⟩ : ∃ W, W = word m (n / 64) := ⟨_, rfl⟩
  have hWl := word_lt m (n / 64)
  rw [← hW] at hat hWl
  obtain ⟨cs, hcs⟩ : ∃ cs, cs = cells m := ⟨_, rfl⟩
  rw [← hcs] at hsz hat ⊢
  have HW := Lib.hid (within_yes h)
  have HM := Lib.hid hW
  clear hcs hW
  go_enter Tryd.func17, Tryd.ntmps17
  go_wp2_with fail
  refine (within_call n true _ HW.out).mono ?_
  rintro e w1 ⟨rfl, hb⟩
  have BK := blk_below (heap_alloc_new w (.cells cs 27)) hb
  have cw : w1.cell? ⟨w.heap.size, n / 64, none⟩ = some (.int .u64 W) := (blk_cell BK (n / 64)).trans hat
  have HB := Lib.hid hb
  clear BK hb hat
  have i0 : (0 : Int) ≤ (n : Int) / 64 := by omega
  have i1 : (n : Int) / 64 < 64 := by omega
  go_wp2_with fail
  have hbit := has_bit m n W HM.out hWl
  rw [hbit]
  go_ret
  exact ⟨rfl, below_step (below_alloc (Below.refl _ _) _) HB.out⟩
end Go.Proofs.YtjcppnleoahaiaaDoor.P
