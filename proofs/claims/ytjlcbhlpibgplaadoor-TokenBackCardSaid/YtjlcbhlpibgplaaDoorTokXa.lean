/- What was cut, joined, is cut as the same: plainly. -/
import Derived.Test.YtjlcbhlpibgplaaDoorTokR
import Derived.Test.YtjlcbhlpibgplaaDoorTokW
namespace Go.Proofs.YtjlcbhlpibgplaaDoor.P
open Go.RowKit Go.Proofs.YtjlcbhlpibgplaaDoorW.PrintWords
set_option linter.unusedVariables false
set_option linter.unusedSimpArgs false
/-- A token whose text, cut alone, is that token. -/
def Good (t : S30) : Prop := (∃ e : S30, core e = (5, 0, []) ∧ lex t.f3.data.toList 0 = .inr [⟨t.f0, t.f1, 0, t.f3⟩, e]) ∧ (35 : UInt8) ∉ t.f3.data.toList ∧ t.f0 ≠ 5 ∧ 0 < t.f3.size
def lensT (l : List S30) : Nat := (l.map (·.f3.size)).sum
def EndT (e : S30) : Prop := core e = (5, 0, [])
theorem end_core (k : Int) : core ⟨5, 0, k, ⟨#[]⟩⟩ = (5, 0, []) := by
  simp only [core, toList_data]
theorem all_mem {p : UInt8 → Bool} {l : List UInt8} (h : l.all p = true) : ∀ c ∈ l, p c = true := List.all_eq_true.1 h
theorem tw_all (p : UInt8 → Bool) : ∀ l : List UInt8, (l.takeWhile p).all p = true
  | [] => rfl
  | c :: l => by
    by_cases h : p c = true
    · rw [List.takeWhile_cons, if_pos h, List.all_cons, h, tw_all p l]; rfl
    · rw [List.takeWhile_cons, if_neg h]; rfl
theorem dw_all (p : UInt8 → Bool) : ∀ {x : List UInt8} (h : x.all p = true), x.dropWhile p = []
  | [], _ => rfl
  | c :: x, h => by
    simp only [List.all_cons, Bool.and_eq_true] at h
    rw [List.dropWhile_cons, if_pos h.1, dw_all p h.2]
theorem good_word {c : UInt8} {r : List UInt8} (at_ : Int) (hc : hasB partsT c = true) (hr : r.all (hasB partsT) = true) (hk : wordK (bs (c :: r)) ≠ 0) : Good ⟨wordK (bs (c :: r)), wordV (bs (c :: r)), at_, bs (c :: r)⟩ := by
  refine ⟨⟨⟨5, 0, (0 + 1 + r.length : Nat), ⟨#[]⟩⟩, end_core _, ?_⟩, ?_, ?_, ?_⟩
  · show lex (bs (c :: r)).data.toList 0 = _
    rw [list_bs, lex_word _ _ hc, run_all _ _ hr, dw_all _ hr, if_neg hk, lex_nil]
    rfl
  · show 35 ∉ (bs (c :: r)).data.toList
    rw [list_bs]
    intro hm
    have h2 : (c :: r).all (hasB partsT) = true := by rw [List.all_cons, hc, hr]; rfl
    exact (part_not (all_mem h2 _ hm)).2 rfl
  · show wordK _ ≠ 5
    unfold wordK; split; decide; split; decide; split <;> decide
  · show 0 < (bs (c :: r)).size
    rw [bs_size]; simp
theorem no_note : (35 : UInt8) ∉ pairsT.data.toList := by decide
theorem pair_no {c d : UInt8} (h : pair2 c d = true) : d ≠ 35 := by
  simp only [pair2, Bool.and_eq_true] at h
  intro e
  exact no_note (contains_mem h.2 35 (by rw [e]; simp))
theorem sg_take (c : UInt8) (r : List UInt8) (h : sg (c :: r) ≠ 0) (h35 : c ≠ 35) : ∃ r', (c :: r).take (sg (c :: r)) = c :: r' ∧ sg (c :: r') = r'.length + 1 ∧ sg (c :: r) = r'.length + 1 ∧ (35 : UInt8) ∉ c :: r' := by
  match r with
  | [] =>
    have h1 : sg [c] = 1 := by rw [sg] at h ⊢; split <;> simp_all
    exact ⟨[], by rw [h1]; rfl, h1, h1, by simp; exact fun e => h35 e.symm⟩
  | d :: r =>
    by_cases hp : pair2 c d = true
    · have h2 : sg (c :: d :: r) = 2 := by rw [sg, if_pos hp]
      have h3 : sg (c :: d :: []) = 2 := by rw [sg, if_pos hp]
      exact ⟨[d], by rw [h2]; rfl, h3, h2, by
        simp
        exact ⟨fun e => h35 e.symm, fun e => pair_no hp e.symm⟩⟩
    · have h2 : sg (c :: d :: r) = 1 := by rw [sg, if_neg hp] at h ⊢; split <;> simp_all
      have h3 : sg [c] = 1 := by rw [sg, if_neg hp] at h2; rw [sg]; exact h2
      exact ⟨[], by rw [h2]; rfl, h3, h2, by simp; exact fun e => h35 e.symm⟩
theorem good_sign {c : UInt8} {r : List UInt8} (at_ : Int) (h1 : hasB blanksT c = false) (h2 : c ≠ 35) (h3 : hasB partsT c = false) (hs : sg (c :: r) = r.length + 1) (hn : (35 : UInt8) ∉ c :: r) : Good ⟨3, 0, at_, bs (c :: r)⟩ := by
  refine ⟨⟨⟨5, 0, (0 + sg (c :: r) : Nat), ⟨#[]⟩⟩, end_core _, ?_⟩, ?_, by show (3 : Int) ≠ 5; decide, ?_⟩
  · show lex (bs (c :: r)).data.toList 0 = _
    rw [list_bs, lex_sign _ _ h1 h2 h3, if_neg (by omega), List.drop_of_length_le (by omega), lex_nil, List.take_of_length_le (by simp; omega)]
    rfl
  · show 35 ∉ (bs (c :: r)).data.toList
    rw [list_bs]; exact hn
  · show 0 < (bs (c :: r)).size
    rw [bs_size]; simp
/-- All tokens but the end are good, and their texts are no longer than the whole. -/
theorem lex_good : ∀ (n : Nat) (l : List UInt8) (at_ : Nat) (ts : List S30), l.length ≤ n → lex l at_ = .inr ts → ∃ us e, ts = us ++ [e] ∧ EndT e ∧ (∀ t ∈ us, Good t) ∧ lensT us ≤ l.length
  | n, [], at_, ts, hn, h => by
    rw [lex_nil] at h
    injection h with h
    exact ⟨[], _, h.symm, end_core _, by simp, by simp [lensT]⟩
  | 0, c :: r, at_, ts, hn, h => by simp at hn
  | n + 1, c :: r, at_, ts, hn, h => by
    simp only [List.length_cons] at hn ⊢
    rcases lex_ways c with h1 | rfl | h3 | ⟨h1, h2, h3⟩
    · rw [lex_blank _ _ h1] at h
      obtain ⟨us, e, a, b, c, d⟩ := lex_good n _ _ _ (by omega) h
      exact ⟨us, e, a, b, c, by omega⟩
    · rw [lex_note] at h
      have hd := (List.dropWhile_sublist (fun c : UInt8 => c != 10) (l := r)).length_le
      obtain ⟨us, e, a, b, c, d⟩ := lex_good n _ _ _ (by omega) h
      exact ⟨us, e, a, b, c, by omega⟩
    · rw [lex_word _ _ h3] at h
      have hr := List.takeWhile_append_dropWhile (p := hasB partsT) (l := r)
      have hlen := congrArg List.length hr
      rw [List.length_append] at hlen
      split at h
      · cases h
      · rename_i hk
        cases hx : lex (r.dropWhile (hasB partsT)) (at_ + 1 + (r.takeWhile (hasB partsT)).length) with
        | inl k => rw [hx] at h; cases h
        | inr vs =>
          rw [hx] at h; injection h with h
          obtain ⟨us, e, a, b, c', d⟩ := lex_good n _ _ _ (by omega) hx
          refine ⟨_ :: us, e, by rw [← h, a]; rfl, b, ?_, ?_⟩
          · intro t ht
            rcases List.mem_cons.1 ht with rfl | ht
            · exact good_word _ h3 (tw_all _ _) hk
            · exact c' t ht
          · simp only [lensT, List.map_cons, List.sum_cons, bs_size, List.length_cons] at d ⊢
            omega
    · rw [lex_sign _ _ h1 h2 h3] at h
      have hle := sg_le (c :: r)
      simp only [List.length_cons] at hle
      split at h
      · cases h
      · rename_i h0
        obtain ⟨r', e1, e2, e3, e4⟩ := sg_take c r h0 h2
        cases hx : lex (r.drop (sg (c :: r) - 1)) (at_ + sg (c :: r)) with
        | inl k => rw [hx] at h; cases h
        | inr vs =>
          rw [hx] at h; injection h with h
          obtain ⟨us, e, a, b, c', d⟩ := lex_good n _ _ _ (by simp; omega) hx
          refine ⟨_ :: us, e, by rw [← h, a]; rfl, b, ?_, ?_⟩
          · intro t ht
            rcases List.mem_cons.1 ht with rfl | ht
            · rw [e1]; exact good_sign _ h1 h2 h3 e2 e4
            · exact c' t ht
          · simp only [lensT, List.map_cons, List.sum_cons, bs_size, e1, List.length_cons] at d ⊢
            simp only [List.length_drop] at d
            omega
theorem join_two (x y : List UInt8) (r : List (List UInt8)) : Lib.join (x :: y :: r) [32] = x ++ 32 :: Lib.join (y :: r) [32] := by
  rw [Lib.join_cons, Lib.join_cons]
  simp [Lib.joinTail]
def txt (t : S30) : List UInt8 := t.f3.data.toList
theorem core_eq {a b : S30} (h : core a = core b) : a.f0 = b.f0 ∧ a.f1 = b.f1 ∧ a.f3 = b.f3 := by
  simp only [core, Prod.mk.injEq, toList_data] at h
  refine ⟨h.1, h.2.1, ?_⟩
  rw [← bs_list a.f3, ← bs_list b.f3, h.2.2]
/-- Good texts, joined, are cut as they were. -/
theorem lex_join : ∀ (us : List S30) (at_ : Nat), (∀ t ∈ us, Good t) → ∃ vs e, lex (Lib.join (us.map txt) [32]) at_ = .inr (vs ++ [e]) ∧ vs.map core = us.map core ∧ EndT e
  | [], at_, h => ⟨[], _, by rw [List.map_nil, Lib.join_nil, lex_nil]; rfl, rfl, end_core _⟩
  | [t], at_, h => by
    obtain ⟨⟨e, he, hl⟩, _⟩ := h t (by simp)
    rw [List.map_cons, List.map_nil, Lib.join_one]
    have hs := lex_shift at_ _ t.f3.data.toList 0 (Nat.le_refl _)
    rw [hl, Nat.zero_add] at hs
    exact ⟨[_], _, hs, rfl, he⟩
  | t :: u :: us, at_, h => by
    obtain ⟨⟨e, he, hl⟩, hn, _⟩ := h t (by simp)
    rw [List.map_cons, List.map_cons, join_two, ← List.map_cons, lex_sep 32 _ _ (txt t) _ (Nat.le_refl _) (.inr ⟨rfl, hn⟩)]
    have hs := lex_shift at_ _ t.f3.data.toList 0 (Nat.le_refl _)
    rw [hl, Nat.zero_add] at hs
    obtain ⟨vs, e', h1, h2, h3⟩ := lex_join (u :: us) (at_ + (txt t).length + 1) (fun x hx => h x (List.mem_cons_of_mem _ hx))
    rw [show lex (txt t) at_ = _ from hs, h1]
    exact ⟨_ :: vs, e', rfl, by rw [List.map_cons, h2]; rfl, h3⟩
theorem texts_good (us : List S30) (e : S30) (he : EndT e) (h : ∀ t ∈ us, t.f0 ≠ 5) : textsOf (us ++ [e]) = us.map (·.f3) := by
  have h5 : e.f0 = 5 := congrArg (·.1) he
  unfold textsOf
  rw [List.filter_append, List.filter_eq_self.2 (fun t ht => by simpa using h t ht)]
  simp [h5]
theorem map_core {us vs : List S30} (h : vs.map core = us.map core) : vs.map (·.f3) = us.map (·.f3) ∧ vs.map (·.f0) = us.map (·.f0) := by
  induction us generalizing vs with
  | nil => simp_all
  | cons u us ih =>
    cases vs with
    | nil => simp at h
    | cons v vs =>
      simp only [List.map_cons, List.cons.injEq] at h ⊢
      obtain ⟨i1, i2⟩ := ih h.2
      obtain ⟨j1, _, j3⟩ := core_eq h.1
      exact ⟨⟨j3, i1⟩, ⟨j1, i2⟩⟩
theorem lens_eq (us : List S30) : Lib.lens (us.map txt) = lensT us := by
  unfold Lib.lens lensT
  rw [List.map_map]
  congr 1
theorem lens_ge (us : List S30) (h : ∀ t ∈ us, 0 < t.f3.size) : us.length ≤ lensT us := by
  induction us with
  | nil => simp [lensT]
  | cons u us ih =>
    have h1 := h u (by simp)
    have h2 := ih (fun t ht => h t (List.mem_cons_of_mem _ ht))
    simp only [lensT, List.map_cons, List.sum_cons, List.length_cons] at h2 ⊢
    omega
theorem join_len (us : List S30) (h : ∀ t ∈ us, 0 < t.f3.size) : (Lib.join (us.map txt) [32]).length ≤ 2 * lensT us := by
  cases us with
  | nil => simp [Lib.join_nil, lensT]
  | cons u us =>
    rw [List.map_cons, Lib.join_length, ← List.map_cons, lens_eq, List.length_map]
    have := lens_ge (u :: us) h
    simp only [List.length_cons, List.length_nil] at this ⊢
    omega
/-- What the law of both ways says. -/
theorem back_cases (s : ByteArray) (hs : s.size ≤ 2000) : (∃ n : Nat, n < s.size ∧ cutR s = ([], (n : Int), 2)) ∨
    (∃ ts us : List S30, cutR s = (ts, 0, 0) ∧ ts.length ≤ 2001 ∧ (Lib.join ((textsOf ts).map (·.data.toList)) [32]).length ≤ 4000 ∧ (joinB (textsOf ts)).size ≤ 2 * s.size ∧ cutR (joinB (textsOf ts)) = (us, 0, 0) ∧ us.length ≤ 2001 ∧ ts.map core = us.map core ∧ textsOf us = textsOf ts) := by
  rw [cutR_lex s (by omega)]
  cases hx : lex s.data.toList 0 with
  | inl n =>
    have := lex_inl _ _ _ _ (Nat.le_refl _) hx
    rw [data_len] at this
    exact .inl ⟨n, by omega, rfl⟩
  | inr ts =>
    have hlen := lex_len _ _ _ _ (Nat.le_refl _) hx
    obtain ⟨us, e, rfl, he, hg, hl⟩ := lex_good _ _ _ _ (Nat.le_refl _) hx
    rw [data_len] at hlen hl
    have htx := texts_good us e he (fun t ht => (hg t ht).2.2.1)
    have hmap : (us.map (·.f3)).map (·.data.toList) = us.map txt := by rw [List.map_map]; rfl
    have hj := join_len us (fun t ht => (hg t ht).2.2.2)
    obtain ⟨vs, e', h1, h2, h3⟩ := lex_join us 0 hg
    have hjs : (joinB (us.map (·.f3))).data.toList = Lib.join (us.map txt) [32] := by rw [joinB, hmap]
    have hjz : (joinB (us.map (·.f3))).size = (Lib.join (us.map txt) [32]).length := by rw [← data_len, hjs]
    refine .inr ⟨us ++ [e], vs ++ [e'], rfl, by omega, by rw [htx, hmap]; omega, by rw [htx, hjz]; omega, ?_, ?_, ?_, ?_⟩
    · rw [htx, cutR_lex _ (by rw [hjz]; omega), hjs, h1]; rfl
    · have := congrArg List.length h2
      simp only [List.length_map] at this
      simp only [List.length_append, List.length_singleton] at hlen ⊢
      omega
    · rw [List.map_append, List.map_append, h2, List.map_singleton, List.map_singleton, he, h3]
    · obtain ⟨m1, m2⟩ := map_core h2
      rw [htx, ← m1]
      refine texts_good vs e' h3 (fun t ht => ?_)
      have : t.f0 ∈ vs.map (·.f0) := List.mem_map.2 ⟨t, ht, rfl⟩
      rw [m2] at this
      obtain ⟨u, hu, hu2⟩ := List.mem_map.1 this
      rw [← hu2]
      exact (hg u hu).2.2.1
end Go.Proofs.YtjlcbhlpibgplaaDoor.P
