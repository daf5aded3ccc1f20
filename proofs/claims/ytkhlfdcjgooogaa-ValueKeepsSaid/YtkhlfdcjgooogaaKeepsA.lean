/- ValueKeeps: a heap and its copy side by side; what was set is got. -/
import Derived.Test.YtkhlfdcjgooogaaOne
import Derived.Test.YtkhlfdcjgooogaaActs
namespace Go.Proofs.Ytkhlfdcjgooogaa.P
open Go.RowKit Go.Proofs.YtkhlfdcjgooogaaW.PrintWords Go.Proofs.YtkhlfdcjgooogaaW.PrintLast Go.Proofs.YtkhlfdcjgooogaaW.PrintMore
set_option linter.unusedVariables false
set_option linter.unusedSimpArgs false
/-- A heap and its copy, made since w0. -/
structure H2 (w0 w : World) (Bh Bc : Nat) (okh okc : Nat → Prop) (L M : List (List Int)) : Prop where
  h : H1 w0 w Bh okh L
  c : H1 w0 w Bc okc M
  dj : ∀ k, okh k → ¬ okc k
variable {w0 w w' : World} {Bh Bc g t : Nat} {okh okc : Nat → Prop} {L M : List (List Int)} {cs : Array Value}
theorem H2.below (h : H2 w0 w Bh Bc okh okc L M) (hb : Below w.heap.size w w') : H2 w0 w' Bh Bc okh okc L M := ⟨h.h.below hb, h.c.below hb, h.dj⟩
theorem Var.fresh2 (T : H2 w0 w Bh Bc okh okc L M) (h : w'.heap[g]? = some (.cells cs t (0, 0))) (hg : w.heap.size ≤ g) : Var w' okh okc g cs t :=
  ⟨h, fun hk => by have := (T.h.sub _ hk).2; omega, fun hk => by have := (T.c.sub _ hk).2; omega⟩
/-- Copy. -/
theorem h2_copy (h : H1 w0 w Bh okh L) : Calls Try.prog 23 #[.pointer (some ⟨Bh, 0, none⟩)] w fun e w' => (∃ Bc okc, e = .returned (.pointer (some ⟨Bc, 0, none⟩)) ∧ H2 w0 w' Bh Bc okh okc L L ∧ ∀ k, k < w.heap.size → ¬ okc k) ∧ Below w.heap.size w w' := by
  refine (hcopy h.hh h.ch).mono fun e w' hh => ?_
  obtain ⟨Bc, okc, he, hA, hk, hb⟩ := hh
  refine ⟨⟨Bc, okc, he, ⟨h.below hb, ⟨hA, fun k hk2 => ⟨Nat.le_trans h.bel.size (hk k hk2).1, (hk k hk2).2⟩, h.ch, (h.below hb).bel⟩, fun k h1 h2 => ?_⟩, fun k hlt h2 => ?_⟩, hb⟩
  · have := (h.sub k h1).2
    have := (hk k h2).1
    omega
  · have := (hk k h2).1
    omega
theorem Var1.two (h : Var1 w okh g cs t) (hk : ∀ k, k < w.heap.size → ¬ okc k) (hb : Below w.heap.size w w') : Var w' okh okc g cs t := ⟨blk_below h.blk hb, h.nh, hk g (blk_lt h.blk)⟩
theorem h2_set (h : H2 w0 w Bh Bc okh okc L M) (a n k i s x : Int) {r : Int} {M' : List (List Int)} (hr : wrongF M a n k i = r ∧ setL M a n k i s x = M') :
    Calls Try.prog 24 #[.pointer (some ⟨Bc, 0, none⟩), .agg #[.int .i64 a, .int .i64 n], .agg #[.int .i64 k, .int .i64 i], .agg #[.int .i64 s, .int .i64 x]] w fun e w' => e = .returned (.int .i64 r) ∧ H2 w0 w' Bh Bc okh okc L M' ∧ Keep w w' okh okc okh okc := by
  refine (h1_set h.c a n k i s x hr).mono fun e w' hh => ?_
  obtain ⟨he, hc, hg⟩ := hh
  refine ⟨he, ⟨⟨h.h.hh.step (fun k hk ho => hg.block k hk (h.dj k ho)), fun k hk => ⟨(h.h.sub k hk).1, Nat.lt_of_lt_of_le (h.h.sub k hk).2 hg.size⟩, h.h.ch, hc.bel⟩, hc, h.dj⟩, fun k hk h1 h2 => ⟨hg.block k hk h2, h1, h2⟩⟩
/-! What was set is got. -/
theorem cells_setL (L : List (List Int)) (a n k i s x : Int) : cellsOf (setL L a n k i s x) = cellsOf L := by
  unfold setL
  split
  · exact cells_set _ _ _ (by simp [arrAt])
  · rfl
theorem arrAt_set_same {L : List (List Int)} {n : Int} (h : (n - 1).toNat < L.length) (xs : List Int) : arrAt (L.set (n - 1).toNat xs) n = xs := by
  unfold arrAt
  rw [List.getD_eq_getElem?_getD, List.getElem?_set_self h]
  rfl
theorem arrAt_set_ne {L : List (List Int)} {n m : Int} (h : (n - 1).toNat ≠ (m - 1).toNat) (xs : List Int) : arrAt (L.set (n - 1).toNat xs) m = arrAt L m := by
  unfold arrAt
  rw [List.getD_eq_getElem?_getD, List.getElem?_set_ne h, ← List.getD_eq_getElem?_getD]
theorem isB_setL (L : List (List Int)) (a n k i s x b m : Int) : isB (setL L a n k i s x) b m = isB L b m := by simp [isB, setL_len]
theorem arr_setL (L : List (List Int)) (a n k i s x m : Int) : (arrAt (setL L a n k i s x) m).length = (arrAt L m).length := by
  unfold setL
  split
  · unfold arrAt
    simp only [List.getD_eq_getElem?_getD, List.getElem?_set]
    split
    · rename_i h
      split
      · simp [arrAt, h, List.getD_eq_getElem?_getD]
      · rename_i h2
        rw [List.getElem?_eq_none (by omega)]
    · rfl
  · rfl
theorem wrong_setL (L : List (List Int)) (a n k i s x b m c j : Int) : wrongF (setL L a n k i s x) b m c j = wrongF L b m c j := by
  unfold wrongF
  rw [isB_setL, arr_setL]
theorem get_setL_same (L : List (List Int)) (a n k i x : Int) (h : wrongF L a n k i = 0) :
    getK (setL L a n k i 1 x) a n k i = 1 ∧ getN (setL L a n k i 1 x) a n k i = x ∧ wrongF (setL L a n k i 1 x) a n k i = 0 := by
  have hw : wrongF (setL L a n k i 1 x) a n k i = 0 := by rw [wrong_setL]; exact h
  refine ⟨by unfold getK; rw [if_pos hw], ?_, hw⟩
  unfold getN
  rw [if_pos hw]
  rcases wrong_cases L a n k i with h1 | h1 | ⟨hi, _, h0, hm, _⟩
  · rw [h1.2] at h; cases h
  · rw [h1.2.2] at h; cases h
  obtain ⟨_, hn1, hn2⟩ := isB_iff.1 hi
  unfold setL
  rw [if_pos ⟨h, rfl⟩]
  have e : (n - 1).toNat < L.length := by omega
  have hi2 : i.toNat < (arrAt L n).length := by omega
  have e2 : arrAt (L.set (n - 1).toNat ((arrAt L n).set i.toNat x)) n = (arrAt L n).set i.toNat x := arrAt_set_same e _
  rw [e2]
  simp [List.getD_eq_getElem?_getD, hi2]
theorem get_setL_other (L : List (List Int)) (a n k i x b m c j : Int) (hne : ¬ (a = b ∧ n = m ∧ k = c ∧ i = j)) :
    getK (setL L a n k i 1 x) b m c j = getK L b m c j ∧ getN (setL L a n k i 1 x) b m c j = getN L b m c j ∧ wrongF (setL L a n k i 1 x) b m c j = wrongF L b m c j := by
  have hw := wrong_setL L a n k i 1 x b m c j
  refine ⟨by unfold getK; rw [hw], ?_, hw⟩
  unfold getN
  rw [hw]
  by_cases h0 : wrongF L b m c j = 0
  · rw [if_pos h0, if_pos h0]
    by_cases hs : wrongF L a n k i = 0
    · have hA : a = 3 ∧ 1 ≤ n ∧ n ≤ (L.length : Int) ∧ k = 1 ∧ 0 ≤ i ∧ i < ((arrAt L n).length : Int) := by
        rcases wrong_cases L a n k i with h1 | h1 | ⟨hi, hk, h2, hm, _⟩
        · rw [h1.2] at hs; cases hs
        · rw [h1.2.2] at hs; cases hs
        · obtain ⟨e1, e2, e3⟩ := isB_iff.1 hi
          exact ⟨e1, e2, e3, hk, h2, hm⟩
      have hB : b = 3 ∧ 1 ≤ m ∧ m ≤ (L.length : Int) ∧ c = 1 ∧ 0 ≤ j ∧ j < ((arrAt L m).length : Int) := by
        rcases wrong_cases L b m c j with h1 | h1 | ⟨hi, hk, h2, hm, _⟩
        · rw [h1.2] at h0; cases h0
        · rw [h1.2.2] at h0; cases h0
        · obtain ⟨e1, e2, e3⟩ := isB_iff.1 hi
          exact ⟨e1, e2, e3, hk, h2, hm⟩
      unfold setL
      rw [if_pos ⟨hs, rfl⟩]
      have en : (n - 1).toNat < L.length := by omega
      by_cases hnm : n = m
      · subst hnm
        have hij : i.toNat ≠ j.toNat := by
          intro e
          have : i = j := by omega
          exact hne ⟨by omega, rfl, by omega, this⟩
        have e2 : arrAt (L.set (n - 1).toNat ((arrAt L n).set i.toNat x)) n = (arrAt L n).set i.toNat x := arrAt_set_same en _
        rw [e2]
        simp [List.getD_eq_getElem?_getD, List.getElem?_set, hij]
      · have e3 : (n - 1).toNat ≠ (m - 1).toNat := by omega
        have e2 : arrAt (L.set (n - 1).toNat ((arrAt L n).set i.toNat x)) m = arrAt L m := arrAt_set_ne e3 _
        rw [e2]
    · unfold setL
      rw [if_neg (fun hh => hs hh.1)]
  · rw [if_neg h0, if_neg h0]
theorem get_bad {L : List (List Int)} {a n k i r : Int} (h : wrongF L a n k i = r) (hr : r ≠ 0) : getK L a n k i = 0 ∧ getN L a n k i = 0 ∧ wrongF L a n k i = r := by
  refine ⟨by unfold getK; rw [if_neg (by rw [h]; exact hr)], by unfold getN; rw [if_neg (by rw [h]; exact hr)], h⟩
theorem setL_bad {L : List (List Int)} {a n k i r x : Int} (h : wrongF L a n k i = r) (hr : r ≠ 0) : setL L a n k i 1 x = L := by
  unfold setL
  rw [if_neg (fun hh => hr (by rw [← h]; exact hh.1))]
end Go.Proofs.Ytkhlfdcjgooogaa.P
