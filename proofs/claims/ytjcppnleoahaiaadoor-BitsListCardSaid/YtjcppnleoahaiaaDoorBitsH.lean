/- bits.Set: Count. -/
import Derived.Test.YtjcppnleoahaiaaDoorBitsG
namespace Go.Proofs.YtjcppnleoahaiaaDoor.P
open Go.RowKit Go.Proofs.YtjcppnleoahaiaaDoorW.PrintWords Go.Proofs.YtjcppnleoahaiaaDoorW.PrintLast Go.Proofs.YtjcppnleoahaiaaDoorW.PrintMore
set_option linter.unusedVariables false
set_option linter.unusedSimpArgs false
theorem sumN_more (d : Nat → Nat) (a : Nat) : ∀ n, sumN d (a + n) = sumN d a + sumN (fun j => d (a + j)) n
  | 0 => by simp [sumN]
  | n + 1 => by rw [← Nat.add_assoc, sumN, sumN_more d a n, sumN]; omega
theorem cnt_next (m : Nat → Bool) (k : Nat) : cnt m (64 * k) + cnt (fun j => m (64 * k + j)) 64 = cnt m (64 * (k + 1)) := by
  unfold cnt
  rw [show 64 * (k + 1) = 64 * k + 64 by omega, sumN_more]
theorem pop_at (m : Nat → Bool) (i : Nat) (w : World) : Calls Tryd.prog 41 #[.int .u64 (word m i : Nat)] w fun e w' => e = .returned (.int .i64 (cnt (fun j => m (64 * i + j)) 64 : Nat)) ∧ Below w.heap.size w w' := pop_call _ w
/-- What stands at a round's head. -/
def CountRel (w : World) (m : Nat → Bool) (i n : Value) (wr : World) : Prop := ∃ k : Nat, k ≤ 64 ∧ i = .int .i64 k ∧ n = .int .i64 (cnt m (64 * k) : Nat) ∧ Below w.heap.size w wr
set_option maxRecDepth 100000 in
set_option maxHeartbeats 4000000 in
theorem count_any (m : Nat → Bool) (w : World) :
    Calls Tryd.prog 25 #[.agg (cells m)] w fun e w' => e = .returned (.int .i64 (cnt m 4096 : Nat)) ∧ Below w.heap.size w w' := by
  have hsz := cells_size m
  obtain ⟨cs, hcs⟩ : ∃ cs, cs = cells m := ⟨_, rfl⟩
  rw [← hcs] at hsz ⊢
  have HCS := Lib.hid hcs
  have hi : (Tryd.prog.info? 25).map (·.size) = some cs.size := by rw [hsz]; kernel_rfl
  clear hcs
  go_enter Tryd.func25, Tryd.ntmps25
  go_wp2_with (((with_reducible refine gate_dst (N := 7) rfl ?_); refine Stp.out ?_))
  unfold Stp
  obtain ⟨w2, hw2⟩ : ∃ W_, W_ = w.alloc (.cells cs 27) := ⟨_, rfl⟩
  rw [← hw2]
  have HK1 : Hid (w2.heap[w.heap.size]? = some (.cells cs 27 (0, 0))) := Lib.hid (by rw [hw2]; exact heap_alloc_new w _)
  have HB : Hid (Below w.heap.size w w2) := Lib.hid (by rw [hw2]; exact below_alloc (Below.refl _ _) _)
  clear hw2
  refine wpList_load_row rfl 25 (.tmp 6) rfl w.heap.size rfl 27 cs (0, 0) _ HK1.out Tryd.underlying25 rfl hi ?_
  go_wp2_with fail
  go_loopw [8, 3] (fun i n wr => CountRel w m i n wr) (fun i _ _ => 64 - (intOf i).toNat)
  case atStart => exact ⟨0, Nat.zero_le _, rfl, rfl, HB.out⟩
  case round =>
    obtain ⟨k, hk, rfl, rfl, hb⟩ := hrel
    by_cases hlt : k < 64
    · have hat := cells_at m hlt
      rw [← HCS.out] at hat
      have hcall := pop_at m k
      have hn := cnt_next m k
      have hn2 : cnt m (64 * (k + 1)) ≤ 4096 := Nat.le_trans (cnt_le m _) (by omega)
      obtain ⟨W, hW⟩ : ∃ W, W = word m k := ⟨_, rfl⟩
      obtain ⟨p, hp⟩ : ∃ p, p = cnt (fun j => m (64 * k + j)) 64 := ⟨_, rfl⟩
      obtain ⟨s, hs⟩ : ∃ s, s = cnt m (64 * k) := ⟨_, rfl⟩
      rw [← hW] at hat hcall
      rw [← hp] at hcall hn
      rw [← hs] at hn ⊢
      have HCALL := Lib.hid hcall
      have HN := Lib.hid hn
      have HB2 := Lib.hid hb
      have b1 : (p : Int) + s ≤ 4096 := by omega
      have i0 : (0 : Int) ≤ (k : Int) := by omega
      have i1 : (k : Int) < 64 := by omega
      have hidx : ∀ W_ : World, (Instr.index 25 (.agg cs) (.int .i64 k)).run Tryd.prog W_ = .ok (.int .u64 W) W_ := fun W_ => index_row W_ hat hsz hlt
      clear hW hp hs hcall hn hb hn2
      go_wp2_with fail
      refine (HCALL.out _).mono ?_
      rintro e w3 ⟨rfl, hb3⟩
      have HB3 := Lib.hid (below_step HB2.out hb3)
      clear hb3 HCALL
      go_wp2_with fail
      go_roundw
      case rel => exact ⟨k + 1, by omega, by norm_cast, by rw [← HN.out]; congr 1, HB3.out⟩
      case measure => simp [intOf]; omega
    · obtain rfl : k = 64 := by omega
      go_wp2_with fail
      go_ret
      exact ⟨rfl, hb⟩
end Go.Proofs.YtjcppnleoahaiaaDoor.P
