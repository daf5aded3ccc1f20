/- Both heaps: what each act does, as plain functions on lists of lists. -/
import Derived.Test.YtkhlfdcjgooogaaHeapG
namespace Go.Proofs.Ytkhlfdcjgooogaa.P
open Go.RowKit Go.Proofs.YtkhlfdcjgooogaaW.PrintWords Go.Proofs.YtkhlfdcjgooogaaW.PrintLast Go.Proofs.YtkhlfdcjgooogaaW.PrintMore
set_option linter.unusedVariables false
set_option linter.unusedSimpArgs false
def newL (L : List (List Int)) (n : Int) : List (List Int) := if n < 0 ∨ 65536 < n then L else if 262144 < cellsOf L + n + 1 then L else L ++ [List.replicate n.toNat 0]
def newK (L : List (List Int)) (n : Int) : Int := if n < 0 ∨ 65536 < n then 0 else if 262144 < cellsOf L + n + 1 then 0 else 3
def newN (L : List (List Int)) (n : Int) : Int := if n < 0 ∨ 65536 < n then 0 else if 262144 < cellsOf L + n + 1 then 0 else L.length + 1
def newE (L : List (List Int)) (n : Int) : Int := if n < 0 ∨ 65536 < n then 4 else 0
def newR (L : List (List Int)) (n : Int) : Bool := if n < 0 ∨ 65536 < n then true else if 262144 < cellsOf L + n + 1 then false else true
def getK (L : List (List Int)) (a n k i : Int) : Int := if wrongF L a n k i = 0 then 1 else 0
def getN (L : List (List Int)) (a n k i : Int) : Int := if wrongF L a n k i = 0 then (arrAt L n).getD i.toNat 0 else 0
def setL (L : List (List Int)) (a n k i s x : Int) : List (List Int) := if wrongF L a n k i = 0 ∧ s = 1 then L.set (n - 1).toNat ((arrAt L n).set i.toNat x) else L
def lenF (L : List (List Int)) (a n : Int) : Int := if isB L a n = true then (arrAt L n).length else 0
def ext (ok : Nat → Prop) (w w' : World) (k : Nat) : Prop := ok k ∨ (w.heap.size ≤ k ∧ k < w'.heap.size)
theorem isB_iff {L : List (List Int)} {a n : Int} : isB L a n = true ↔ a = 3 ∧ 1 ≤ n ∧ n ≤ (L.length : Int) := by simp [isB]
theorem wrong_cases (L : List (List Int)) (a n k i : Int) : (isB L a n = false ∧ wrongF L a n k i = 3) ∨ (isB L a n = true ∧ (k ≠ 1 ∨ i < 0 ∨ ((arrAt L n).length : Int) ≤ i) ∧ wrongF L a n k i = 2) ∨ (isB L a n = true ∧ k = 1 ∧ 0 ≤ i ∧ i < ((arrAt L n).length : Int) ∧ wrongF L a n k i = 0) := by
  unfold wrongF
  by_cases h : isB L a n = false
  · exact .inl ⟨h, by rw [if_pos h]⟩
  · have h' : isB L a n = true := by simpa using h
    rw [if_neg h]
    by_cases h2 : k ≠ 1 ∨ i < 0 ∨ ((arrAt L n).length : Int) ≤ i
    · exact .inr (.inl ⟨h', h2, by rw [if_pos h2]⟩)
    · exact .inr (.inr ⟨h', by omega, by omega, by omega, by rw [if_neg h2]⟩)
theorem wrong_vals (L : List (List Int)) (a n k i : Int) : wrongF L a n k i = 3 ∨ wrongF L a n k i = 2 ∨ wrongF L a n k i = 0 := by
  rcases wrong_cases L a n k i with h | h | h
  · exact .inl h.2
  · exact .inr (.inl h.2.2)
  · exact .inr (.inr h.2.2.2.2)
theorem rows_set : ∀ (gs : List (Nat × Nat)) (L : List (List Int)) (j : Nat) (l : List Int), l.length = (L.getD j []).length → rows gs (L.set j l) = rows gs L
  | g :: gs, xs :: L, 0, l, h => by simp at h; simp [rows, h]
  | g :: gs, xs :: L, j + 1, l, h => by simp [rows]; exact rows_set gs L j l (by simpa using h)
  | [], _, _, _, _ => by simp [rows]
  | _ :: _, [], _, _, _ => by simp
theorem cells_set : ∀ (L : List (List Int)) (j : Nat) (l : List Int), l.length = (L.getD j []).length → cellsOf (L.set j l) = cellsOf L
  | xs :: L, 0, l, h => by simp at h; simp [cellsOf, h]
  | xs :: L, j + 1, l, h => by simp [cellsOf]; exact cells_set L j l (by simpa using h)
  | [], _, _, _ => by simp
theorem ints_set (l : List Int) (i : Nat) (x : Int) : ints (l.set i x) = (ints l).set i (.int .i64 x) := by simp [ints, List.map_set]
theorem fst_inj {gs : List (Nat × Nat)} (h : (gs.map Prod.fst).Nodup) {i j : Nat} (hi : i < gs.length) (hj : j < gs.length) (e : gs[i].1 = gs[j].1) : i = j := by
  have h1 : (gs.map Prod.fst)[i]'(by simpa using hi) = (gs.map Prod.fst)[j]'(by simpa using hj) := by simpa using e
  exact (List.getElem_inj h).1 h1
theorem Arrs.set {W : World} {ok : Nat → Prop} {v : Value} {gs : List (Nat × Nat)} {L : List (List Int)} (h : Arrs W ok v gs L) {j i d q : Nat} (hj : j < L.length) (hd : gs[j]? = some (d, q)) (hi : i < (L.getD j []).length) (x : Int) : Arrs (W.setCell ⟨d, i, none⟩ (.int .i64 x)) ok v gs (L.set j ((L.getD j []).set i x)) := by
  obtain ⟨hjg, hd'⟩ := List.getElem?_eq_some_iff.1 hd
  obtain ⟨hok, cur, hb, hc⟩ := h.at_ j hjg hj
  rw [hd'] at hb
  have hdv : v.ownBlock ≠ some d := fun e => own_ne70 h.own hb (by decide) e.symm
  refine ⟨?_, h.vok, by simp [h.len], h.nd, fun m hm hm' => ?_⟩
  · rw [rows_set _ _ _ _ (by simp), List.length_set]
    exact own_move h.own (fun k hk => Below.heap_setCell W _ _ k (fun e => hdv (by rw [hk]; exact congrArg some e)))
  · have hm2 : m < L.length := by simpa using hm'
    by_cases e : m = j
    · subst e
      refine ⟨by rw [hd'] at hok ⊢; exact hok, cur.setIfInBounds i (.int .i64 x), by rw [hd']; exact blk_put hb i _ rfl, ?_⟩
      rw [List.getElem_set_self]
      rw [getD_lt _ _ hj] at hi ⊢
      rw [ints_set, ← hc]
      simp only [Array.toList_setIfInBounds, List.length_set]
      rw [List.take_set]
    · obtain ⟨ho, cur', hb', hc'⟩ := h.at_ m hm hm2
      rw [List.getElem_set_ne (Ne.symm e)]
      refine ⟨ho, cur', (Below.heap_setCell W _ _ _ (fun e2 => e ?_)).trans hb', hc'⟩
      exact fst_inj h.nd hm hjg (by rw [hd']; exact e2)
theorem HA.lens {W : World} {B : Nat} {ok : Nat → Prop} {L : List (List Int)} (h : HA W B ok L) (hc : cellsOf L ≤ 262144) : L.length ≤ 1000000 ∧ ∀ n, (arrAt L n).length ≤ 1000000 := by
  have h1 := cellsOf_len L
  exact ⟨by omega, fun n => by have := cellsOf_at L (n - 1).toNat; unfold arrAt; omega⟩
theorem lens {L : List (List Int)} (hc : cellsOf L ≤ 262144) : L.length ≤ 1000000 ∧ ∀ n, (arrAt L n).length ≤ 1000000 := by
  have h1 := cellsOf_len L
  exact ⟨by omega, fun n => by have := cellsOf_at L (n - 1).toNat; unfold arrAt; omega⟩
theorem HA.mono {W : World} {B : Nat} {ok ok' : Nat → Prop} {L : List (List Int)} (h : HA W B ok L) (hs : ∀ k, ok k → ok' k) : HA W B ok' L := by
  obtain ⟨hb, v, gs, h1, h2⟩ := h
  exact ⟨hs _ hb, v, gs, h1, h2.own, fun k hk => hs _ (h2.vok k hk), h2.len, h2.nd, fun j hj hj' => ⟨hs _ (h2.at_ j hj hj').1, (h2.at_ j hj hj').2⟩⟩
theorem HR.mono {W : World} {B : Nat} {ok ok' : Nat → Prop} {L : List (List Int)} (h : HR W B ok L) (hs : ∀ k, ok k → ok' k) : HR W B ok' L := by
  obtain ⟨hb, v, gs, h1, h2⟩ := h
  exact ⟨hs _ hb, v, gs, h1, h2.own, fun k hk => hs _ (h2.vok k hk), h2.len, h2.nd, fun j hj hj' => ⟨hs _ (h2.at_ j hj hj').1, (h2.at_ j hj hj').2⟩⟩
/-- New. -/
theorem hnew {B : Nat} {ok : Nat → Prop} {L : List (List Int)} (n : Int) {w : World} (h : HA w B ok L) (hc : cellsOf L ≤ 262144) :
    Calls Try.prog 20 #[.pointer (some ⟨B, 0, none⟩), .int .i64 n] w fun e w' => e = .returned (.tuple #[.agg #[.int .i64 (newK L n), .int .i64 (newN L n)], .int .i64 (newE L n), .bool (newR L n)]) ∧ HA w' B (ext ok w w') (newL L n) ∧ Chg ok w w' := by
  obtain ⟨hb, v, gs, h1, h2⟩ := h
  have hl := cellsOf_len L
  have hl0 := cellsOf_nonneg L
  unfold newK newN newE newR newL
  by_cases c1 : n < 0 ∨ 65536 < n
  · simp only [if_pos c1]
    refine (new_size B n w c1).mono fun e w' hh => ?_
    obtain ⟨he, hw⟩ := hh
    exact ⟨he, HA.mono (HA.below ⟨hb, v, gs, h1, h2⟩ hw) (fun k hk => .inl hk), Chg.of hw⟩
  · simp only [if_neg c1]
    by_cases c2 : 262144 < cellsOf L + n + 1
    · simp only [if_pos c2]
      refine (new_full B v (cellsOf L) n w h1 (by omega) (by omega) hl0 hc c2).mono fun e w' hh => ?_
      obtain ⟨he, hB, hw⟩ := hh
      have hn := h2.ne h1 (by decide) (by decide)
      have h2' : Arrs w' ok v gs L := h2.step' (fun k hk ho => hw.block k hk (fun e => by subst e; rcases ho with ho | ho; exact hn.1 ho; exact hn.2 ho))
      exact ⟨he, HA.mono ⟨hb, v, gs, hB, h2'⟩ (fun k hk => .inl hk), hw.mono (fun x _ hx => hx ▸ hb)⟩
    · simp only [if_neg c2]
      refine (new_is B v gs ok L n w h1 h2 hb (by omega) (by omega) hl (by omega)).mono fun e w' hh => ?_
      exact ⟨hh.1, hh.2.1, hh.2.2⟩
theorem cell_any {B : Nat} {ok : Nat → Prop} {L : List (List Int)} (a n k i : Int) {w : World} (h : HA w B ok L) (hc : cellsOf L ≤ 262144) :
    (wrongF L a n k i ≠ 0 ∧ ∀ w1, Below w.heap.size w w1 → Calls Try.prog 46 #[.pointer (some ⟨B, 0, none⟩), .agg #[.int .i64 a, .int .i64 n], .agg #[.int .i64 k, .int .i64 i]] w1 fun e w' => e = .returned (.tuple #[.pointer none, .int .i64 (wrongF L a n k i)]) ∧ Below w1.heap.size w1 w') ∨
    (wrongF L a n k i = 0 ∧ i.toNat < (arrAt L n).length ∧ (n - 1).toNat < L.length ∧ ∃ v gs d q, w.heap[B]? = some (.cells #[v, .int .i64 (cellsOf L)] 47 (0, 0)) ∧ Arrs w ok v gs L ∧ gs[(n - 1).toNat]? = some (d, q) ∧ RowAt w ok d (arrAt L n) ∧ ∀ w1, Below w.heap.size w w1 → Calls Try.prog 46 #[.pointer (some ⟨B, 0, none⟩), .agg #[.int .i64 a, .int .i64 n], .agg #[.int .i64 k, .int .i64 i]] w1 fun e w' => e = .returned (.tuple #[.pointer (some ⟨d, i.toNat, none⟩), .int .i64 0]) ∧ Below w1.heap.size w1 w') := by
  obtain ⟨hl, hls⟩ := lens hc
  obtain ⟨hb, v, gs, h1, h2⟩ := h
  rcases wrong_cases L a n k i with ⟨hi, e⟩ | ⟨hi, hr, e⟩ | ⟨hi, hk, h0, hm, e⟩
  · rw [e]
    exact .inl ⟨by decide, fun w1 hw => cell_missing (blk_below h1 hw) (h2.step (fun k hk _ => hw.block k hk)) hl a n k i hi⟩
  · rw [e]
    obtain ⟨rfl, hn1, hn2⟩ := isB_iff.1 hi
    obtain ⟨g, c, d, q, rfl, hg, hgs, hcell, hrow⟩ := h2.one hn1 hn2
    exact .inl ⟨by decide, fun w1 hw => cell_range1 n k i (blk_below h1 hw) hl hn1 hn2 (Nat.lt_of_lt_of_le hg hw.size) (pw_cell_below hw hcell) (hls n) hr⟩
  · rw [e]
    obtain ⟨rfl, hn1, hn2⟩ := isB_iff.1 hi
    subst hk
    obtain ⟨g, c, d, q, rfl, hg, hgs, hcell, hrow⟩ := h2.one hn1 hn2
    refine .inr ⟨rfl, by omega, by omega, _, gs, d, q, h1, h2, hgs, hrow, fun w1 hw => ?_⟩
    exact cell_ok n i (blk_below h1 hw) hl hn1 hn2 (Nat.lt_of_lt_of_le hg hw.size) (pw_cell_below hw hcell) (hls n) h0 hm
/-- Get. -/
theorem hget {B : Nat} {ok : Nat → Prop} {L : List (List Int)} (a n k i : Int) {w : World} (h : HA w B ok L) (hc : cellsOf L ≤ 262144) :
    Calls Try.prog 21 #[.pointer (some ⟨B, 0, none⟩), .agg #[.int .i64 a, .int .i64 n], .agg #[.int .i64 k, .int .i64 i]] w fun e w' => e = .returned (.tuple #[.agg #[.int .i64 (getK L a n k i), .int .i64 (getN L a n k i)], .int .i64 (wrongF L a n k i)]) ∧ Below w.heap.size w w' := by
  unfold getK getN
  rcases cell_any a n k i h hc with ⟨hne, hcell⟩ | ⟨he, hi, hj, v, gs, d, q, h1, h2, hgs, hrow, hcell⟩
  · simp only [if_neg hne]
    have hv := wrong_vals L a n k i
    exact get_err a n k i _ (by omega) hcell
  · simp only [if_pos he, he]
    exact get_is a n k i i.toNat _ hrow.lt (hrow.cell _ hi) hcell
/-- Set. -/
theorem hset {B : Nat} {ok : Nat → Prop} {L : List (List Int)} (a n k i s x : Int) {w : World} (h : HA w B ok L) (hc : cellsOf L ≤ 262144) :
    Calls Try.prog 24 #[.pointer (some ⟨B, 0, none⟩), .agg #[.int .i64 a, .int .i64 n], .agg #[.int .i64 k, .int .i64 i], .agg #[.int .i64 s, .int .i64 x]] w fun e w' => e = .returned (.int .i64 (wrongF L a n k i)) ∧ HA w' B ok (setL L a n k i s x) ∧ Chg ok w w' := by
  unfold setL
  rcases cell_any a n k i h hc with ⟨hne, hcell⟩ | ⟨he, hi, hj, v, gs, d, q, h1, h2, hgs, hrow, hcell⟩
  · rw [if_neg (fun hh => hne hh.1)]
    have hv := wrong_vals L a n k i
    refine (set_err a n k i s x _ (by omega) hcell).mono fun e w' hh => ?_
    exact ⟨hh.1, h.below hh.2, Chg.of hh.2⟩
  · rw [he]
    by_cases hs : s = 1
    · subst hs
      rw [if_pos ⟨rfl, rfl⟩]
      refine (set_is a n k i x _ hrow.lt (hrow.cell _ hi) (hrow.frozen _) hcell).mono fun e w' hh => ?_
      obtain ⟨he, w1, hb, rfl⟩ := hh
      have h2' := h2.step (W' := w1) (fun k hk _ => hb.block k hk)
      have h1' := blk_below h1 hb
      have hn := h2'.ne h1' (by decide) (by decide)
      obtain ⟨hjg, hd'⟩ := List.getElem?_eq_some_iff.1 hgs
      have hBd : B ≠ d := fun e => hn.2 (List.mem_map.2 ⟨_, List.getElem_mem hjg, by rw [hd', e]⟩)
      refine ⟨he, ⟨h.bok, v, gs, ?_, h2'.set hj hgs hi x⟩, (Chg.of hb).set _ _ (fun _ => hrow.ok)⟩
      rw [cells_set _ _ _ (by simp [arrAt])]
      exact (Below.heap_setCell w1 _ _ B hBd).trans h1'
    · rw [if_neg (fun hh => hs hh.2)]
      refine (set_nop a n k i s x hs hcell).mono fun e w' hh => ?_
      exact ⟨hh.1, h.below hh.2, Chg.of hh.2⟩
/-- Len. -/
theorem hlen {B : Nat} {ok : Nat → Prop} {L : List (List Int)} (a n : Int) {w : World} (h : HA w B ok L) (hc : cellsOf L ≤ 262144) :
    Calls Try.prog 22 #[.pointer (some ⟨B, 0, none⟩), .agg #[.int .i64 a, .int .i64 n]] w fun e w' => e = .returned (.int .i64 (lenF L a n)) ∧ Below w.heap.size w w' := by
  obtain ⟨hl, hls⟩ := lens hc
  obtain ⟨hb, v, gs, h1, h2⟩ := h
  unfold lenF
  by_cases hi : isB L a n = true
  · rw [if_pos hi]
    obtain ⟨rfl, hn1, hn2⟩ := isB_iff.1 hi
    obtain ⟨g, c, d, q, rfl, hg, hgs, hcell, hrow⟩ := h2.one hn1 hn2
    exact len_of 3 n _ q true (hls n) (fun w1 hw => array_is n (blk_below h1 hw) hl hn1 hn2 (Nat.lt_of_lt_of_le hg hw.size) (pw_cell_below hw hcell))
  · rw [if_neg hi]
    exact len_of (m := 0) a n none 0 false (by decide) (fun w1 hw => array_no (blk_below h1 hw) (h2.step (fun k hk _ => hw.block k hk)) hl a n (by simpa using hi))
theorem hcells {B : Nat} {ok : Nat → Prop} {L : List (List Int)} {w : World} (h : HA w B ok L) (hc : cellsOf L ≤ 262144) :
    Calls Try.prog 18 #[.pointer (some ⟨B, 0, none⟩)] w fun e w' => e = .returned (.int .i64 (cellsOf L)) ∧ w' = w := by
  obtain ⟨hb, v, gs, h1, h2⟩ := h
  exact cells_any B _ w ((blk_cell h1 1).trans rfl) (cellsOf_nonneg L) (by omega)
end Go.Proofs.Ytkhlfdcjgooogaa.P
