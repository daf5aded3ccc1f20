/- Chapter 1's laws: what the calls answer, as the laws want it. -/
import Derived.Test.YtjcppnleoahaiaaDoorBitsQ
namespace Go.Proofs.YtjcppnleoahaiaaDoor.P
open Go.RowKit Go.Proofs.YtjcppnleoahaiaaDoorW.PrintWords Go.Proofs.YtjcppnleoahaiaaDoorW.PrintLast Go.Proofs.YtjcppnleoahaiaaDoorW.PrintMore
set_option linter.unusedVariables false
set_option linter.unusedSimpArgs false
theorem sameF_iff (m m' : Nat → Bool) : sameF m m' = true ↔ ∀ n, n < 4096 → m n = m' n := by
  unfold sameF
  rw [List.all_eq_true]
  constructor
  · intro h n hn
    have h1 := h (n / 64) (List.mem_range.2 (by omega))
    have h2 := word_inj (beq_iff_eq.1 h1) (n % 64) (Nat.mod_lt _ (by omega))
    rwa [show 64 * (n / 64) + n % 64 = n from Nat.div_add_mod n 64] at h2
  · intro h i hi
    rw [List.mem_range] at hi
    exact beq_iff_eq.2 (word_ext fun j hj => h _ (by omega))
theorem sameF_of {m m' : Nat → Bool} (h : ∀ n, m n = m' n) : sameF m m' = true := (sameF_iff m m').2 fun n _ => h n
theorem sameF_refl (m : Nat → Bool) : sameF m m = true := sameF_of fun _ => rfl
theorem Tabs.three {w : World} (h : Tabs w) : 3 ≤ w.heap.size := h.2.2
theorem same_is (m m' : Nat → Bool) (b : Bool) (h : sameF m m' = b) (w : World) :
    Calls Tryd.prog 28 #[.agg (cells m), .agg (cells m')] w fun e w' => e = .returned (.bool b) ∧ Below w.heap.size w w' := by
  rw [← h]; exact same_any m m' w
theorem subset_is (m m' : Nat → Bool) (b : Bool) (h : sameF (orF m m') m' = b) (w : World) :
    Calls Tryd.prog 33 #[.agg (cells m), .agg (cells m')] w fun e w' => e = .returned (.bool b) ∧ Below w.heap.size w w' := by
  rw [← h]; exact subset_any m m' w
theorem count_is (m : Nat → Bool) (n : Nat) (h : cnt m 4096 = n) (w : World) :
    Calls Tryd.prog 25 #[.agg (cells m)] w fun e w' => e = .returned (.int .i64 (n : Nat)) ∧ Below w.heap.size w w' := by
  rw [← h]; exact count_any m w
theorem count_nil (m : Nat → Bool) (h : ∀ n, m n = false) (w : World) :
    Calls Tryd.prog 25 #[.agg (cells m)] w fun e w' => e = .returned (.int .i64 0) ∧ Below w.heap.size w w' := by
  have e : cnt m 4096 = 0 := by
    have : ∀ n, sumN (fun j => (m j).toNat) n = 0 := fun n => by
      induction n with
      | zero => rfl
      | succ n ih => rw [sumN, ih]; simp [h]
    exact this 4096
  exact count_is m 0 e w
theorem has_is (m : Nat → Bool) (n : Int) (b : Bool) (h : hasI m n = b) (w : World) : Calls Tryd.prog 17 #[.agg (cells m), .int .i64 n] w fun e w' => e = .returned (.bool b) ∧ Below w.heap.size w w' := by
  rw [← h]; exact has_any m n w
def shortB (a b c : Nat) : Bool := decide (a ≤ 300 ∧ b ≤ 300 ∧ c ≤ 300)
theorem short_any (A0 : Option Addr) (c0 : Nat) (l0 : List Int) (A1 : Option Addr) (c1 : Nat) (l1 : List Int) (A2 : Option Addr) (c2 : Nat) (l2 : List Int) (b : Bool) (hb : shortB l0.length l1.length l2.length = b) (w : World) (hr0 : Kd.C (Kd.int .i64) w A0 l0.length l0) (hc0 : l0.length ≤ c0) (hr1 : Kd.C (Kd.int .i64) w A1 l1.length l1) (hc1 : l1.length ≤ c1) (hr2 : Kd.C (Kd.int .i64) w A2 l2.length l2) (hc2 : l2.length ≤ c2) :
    Calls Tryd.prog 23 #[.slice A0 l0.length c0, .slice A1 l1.length c1, .slice A2 l2.length c2] w fun e w' => e = .returned (.bool b) ∧ Below w.heap.size w w' := by
  refine (runnellaw1_short.calls A0 c0 l0 A1 c1 l1 A2 c2 l2 b w hr0 hc0 hr1 hc1 hr2 hc2 ?_).mono fun _ _ hh => ⟨hh.1, hh.2.below⟩
  rw [← hb]
  unfold runnellaw1_short.f shortB
  by_cases h0 : l0.length ≤ 300
  · rw [if_pos (by omega)]
    by_cases h1 : l1.length ≤ 300
    · rw [if_pos (by omega)]
      congr 1
      rw [decide_eq_decide]; omega
    · rw [if_neg (by omega)]
      congr 1
      rw [eq_comm, decide_eq_false_iff_not]; omega
  · rw [if_neg (by omega)]
    congr 1
    rw [eq_comm, decide_eq_false_iff_not]; omega
theorem of_one (n : Int) (w : World) : Calls Tryd.prog 10 #[.slice (some ⟨w.heap.size, 0, none⟩) 1 1] (w.alloc (.cells #[.int .i64 n] 3)) fun e w' => e = .returned (.agg (cells (ofF [n]))) ∧ Below (w.alloc (.cells #[.int .i64 n] 3)).heap.size (w.alloc (.cells #[.int .i64 n] 3)) w' :=
  of_any (some ⟨w.heap.size, 0, none⟩) 1 [n] _ (C_ints w [n] (by simp))
end Go.Proofs.YtjcppnleoahaiaaDoor.P
