/- How tokens that came in are read, with what they weigh. -/
import Derived.Test.YtjlcbhlpibgplaaDoorTokYb
import Derived.Test.YtjlcbhlpibgplaaDoorOpen
import Derived.Test.YtjlcbhlpibgplaaDoorRows
namespace Go.Proofs.YtjlcbhlpibgplaaDoor.P
open Go.RowKit Go.ChangeShapes Go.WideShapes Go.ChangeAt Go.Deep Go.Proofs.YtjlcbhlpibgplaaDoorW.PrintWords Go.Proofs.YtjlcbhlpibgplaaDoor.Op
set_option linter.unusedVariables false
set_option linter.unusedSimpArgs false
theorem cellsOf30 : Tryd.prog.cellsOf 30 = 4 := by kernel_rfl
theorem cellsOf3 : Tryd.prog.cellsOf 3 = 1 := by kernel_rfl
theorem cellsOf9 : Tryd.prog.cellsOf 9 = 1 := by kernel_rfl
def bulkT (l : List S30) : Nat := (l.map (fun t => t.f3.size + 1)).sum
theorem rd30b {H : Type} {enc : TypeId × Value → H} {w : World} {fuel : Nat} {cs : List Value} {x : DataW H × List MemPlace}
    (h : DataW.trod enc Tryd.prog w 0 (fun _ => true) true fuel 30 cs = some x) : ∃ a : S30, k30.K w a cs ∧ a.f3.size + 1 ≤ Rows.uptoBulk x.1 := by
  obtain ⟨xs, n, _, hx, hlen, hxl, hg⟩ := DataW.trod_struct Tryd.underlying30 h
  rw [cellsOf30] at hlen
  have hs : ∀ j, j < 4 → (xs[j]?).isSome = true := fun j hj => by
    rw [List.getElem?_eq_getElem (by rw [hxl]; exact hj)]; rfl
  obtain ⟨a0, h0, g0⟩ := Rd.field (Rd.int Tryd.underlying3) cellsOf3 _ (hs 0 (by decide)) (hg 0 _ rfl)
  obtain ⟨a1, h1, g1⟩ := Rd.field (Rd.int Tryd.underlying3) cellsOf3 _ (hs 1 (by decide)) (hg 1 _ rfl)
  obtain ⟨a2, h2, g2⟩ := Rd.field (Rd.int Tryd.underlying3) cellsOf3 _ (hs 2 (by decide)) (hg 2 _ rfl)
  have h3 : DataW.trod enc Tryd.prog w 0 (fun _ => true) true n 9 ((cs.drop 3).take (Tryd.prog.cellsOf 9)) = xs[3]? := hg 3 _ rfl
  obtain ⟨z, hz⟩ := Option.isSome_iff_exists.1 (hs 3 (by decide))
  rw [hz, cellsOf9] at h3
  obtain ⟨a3, e3, e4, _⟩ := DataW.trod_string Tryd.underlying9 h3
  refine ⟨⟨a0, a1, a2, a3⟩, pairK 0 h0 (pairK 1 h1 (pairK 2 h2 (lastK 3 hlen e3))), ?_⟩
  have hxs : xs = [xs[0]'(by rw [hxl]; decide), xs[1]'(by rw [hxl]; decide), xs[2]'(by rw [hxl]; decide), z] := by
    have hl4 : xs.length = 4 := hxl
    match xs, hl4 with
    | [p, q, r, s], _ => simp at hz; simp [hz]
  rw [hx, hxs, e4]
  simp only [List.map_cons, List.map_nil, Rows.uptoBulk, Rows.uptoBulkAll, data_len]
  omega
theorem bulk_append {H : Type} : ∀ (a b : List (DataW H)), Rows.uptoBulkAll (a ++ b) = Rows.uptoBulkAll a + Rows.uptoBulkAll b
  | [], b => by simp [Rows.uptoBulkAll]
  | d :: a, b => by rw [List.cons_append, Rows.uptoBulkAll, Rows.uptoBulkAll, bulk_append a b]; omega
theorem bulkT_append (a : List S30) (t : S30) : bulkT (a ++ [t]) = bulkT a + (t.f3.size + 1) := by simp [bulkT]
theorem rd23b {H : Type} {enc : TypeId × Value → H} {w : World} {fuel : Nat} {cs : List Value} {x : DataW H × List MemPlace}
    (h : DataW.trod enc Tryd.prog w 0 (fun _ => true) true fuel 23 cs = some x) : ∃ l : List S30, (Kd.slice 30 k30).K w l cs ∧ bulkT l ≤ Rows.uptoBulk x.1 := by
  rcases open_slice Tryd.underlying23 h with ⟨rfl, rfl⟩ | ⟨a, len, cap, m, n, D, Pl, rfl, _, hl, hm, hmm, rfl, hi⟩
  · exact ⟨[], ⟨none, 0, rfl, Nat.le_refl _, rfl, by simp, fun hp => absurd hp (by simp)⟩, by simp [bulkT]⟩
  · have hlen : len ≤ maxLen := Nat.le_trans hl hm
    have hlm : len ≤ m := by rw [hmm]; split <;> omega
    have key : ∀ k, k ≤ len → ∃ l : List S30, l.length = k ∧ (∀ j p, l[j]? = some p → ∃ c, c.length = 4 ∧ k30.K w p c ∧ ∀ i u, c[i]? = some u → w.cell? (a.add (j * 4 + i)) = some u) ∧ bulkT l ≤ Rows.uptoBulkAll ((List.range k).map D) := by
      intro k
      induction k with
      | zero => intro _; exact ⟨[], rfl, fun j p hj => by simp at hj, by simp [bulkT]⟩
      | succ k ih =>
        intro hk
        obtain ⟨l, h1, h2, h3⟩ := ih (by omega)
        obtain ⟨cs', hc, ht'⟩ := hi k (by omega)
        obtain ⟨y, hK, hB⟩ := rd30b ht'
        obtain ⟨_, hcl, hat⟩ := World.cells?_some hc
        rw [cellsOf30] at hcl hat
        refine ⟨l ++ [y], by simp [h1], fun j p hj => ?_, ?_⟩
        · rcases Nat.lt_or_ge j k with hjk | hjk
          · rw [List.getElem?_append_left (by omega)] at hj
            exact h2 j p hj
          · rw [List.getElem?_append_right (by omega), h1] at hj
            obtain rfl : j = k := by
              rcases Nat.eq_or_lt_of_le hjk with e | e
              · exact e.symm
              · rw [List.getElem?_eq_none (by simp; omega)] at hj; cases hj
            rw [Nat.sub_self] at hj
            obtain rfl : y = p := by simpa using hj
            refine ⟨cs', hcl, hK, fun i u hu => ?_⟩
            have hij : i < 4 := by rw [← hcl]; exact (List.getElem?_eq_some_iff.1 hu).1
            have := hat i hij
            rw [Go.Deep.add_add] at this
            exact this.trans hu
        · rw [bulkT_append, List.range_succ, List.map_append, bulk_append]
          have hD : Rows.uptoBulkAll (List.map D [k]) = Rows.uptoBulk (D k) := by simp [Rows.uptoBulkAll]
          rw [hD]
          exact Nat.add_le_add h3 hB
    obtain ⟨l, h1, h2, h3⟩ := key len (Nat.le_refl _)
    refine ⟨l, ⟨some a, cap, by rw [h1], by omega, rfl, by rw [h1]; simp only [maxLen] at hlen; omega, fun _ => ⟨a, rfl, h2⟩⟩, ?_⟩
    rw [Rows.uptoBulk]
    omega
theorem join_small (l : List S30) : (Lib.join (textsL l) [32]).length ≤ bulkT l := by
  have key : ∀ l : List S30, (Lib.joinTail [32] (textsL l)).length ≤ bulkT l := by
    intro l
    induction l with
    | nil => simp [textsL, textsOf, Lib.joinTail, bulkT]
    | cons t l ih =>
      rw [texts_cons]
      have hb : bulkT (t :: l) = (t.f3.size + 1) + bulkT l := by simp [bulkT]
      rw [hb]
      split
      · omega
      · rw [joinTail_cons]
        simp only [List.length_cons, List.length_append, data_len]
        omega
  have h2 : (Lib.join (textsL l) [32]).length ≤ (Lib.joinTail [32] (textsL l)).length := by
    cases textsL l with
    | nil => simp [Lib.join_nil]
    | cons x r => rw [Lib.join_cons, joinTail_cons]; simp
  exact Nat.le_trans h2 (key l)
end Go.Proofs.YtjlcbhlpibgplaaDoor.P
