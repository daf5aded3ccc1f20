/- Two texts with a line feed between, plainly; what is alike. -/
import Derived.Test.YtjlcbhlpibgplaaDoorTokY
import Derived.Test.YtjlcbhlpibgplaaDoorPf14
namespace Go.Proofs.YtjlcbhlpibgplaaDoor.P
open Go.RowKit Go.Proofs.YtjlcbhlpibgplaaDoorW.PrintWords
set_option linter.unusedVariables false
set_option linter.unusedSimpArgs false
/-- A token but for where it begins. -/
def core (t : S30) : Int × Int × List UInt8 := (t.f0, t.f1, t.f3.toList)
theorem rd_at (xs : List S30) (i : Nat) (h : i < xs.length) : rd_T30 xs (i : Int) = xs[i] := by
  simp [rd_T30, List.getD_eq_getElem?_getD, h]
theorem like_loop (a b : List S30) (h : a.map core = b.map core) (hm : a.length ≤ 1000000) : ∀ (n i : Nat), a.length ≤ n + i → i ≤ a.length → runnellaw3_like.l0 (n + 1) a b (i : Int) = some true
  | 0, i, hn, hi => by
    rw [runnellaw3_like.l0, if_neg (by omega)]
  | n + 1, i, hn, hi => by
    have hl : a.length = b.length := by simpa using congrArg List.length h
    rw [runnellaw3_like.l0]
    by_cases hlt : i < a.length
    · have hc : core a[i] = core (b[i]'(by omega)) := by
        have h2 : (a.map core)[i]'(by simpa using hlt) = (b.map core)[i]'(by simp; omega) := by simp [h]
        simpa using h2
      simp only [core, Prod.mk.injEq] at hc
      rw [if_pos (by omega), if_pos (by omega), if_pos (by omega), rd_at a i hlt, rd_at b i (by omega), if_pos hc.1, if_pos hc.2.1, if_pos hc.2.2]
      have hw : wrap64 ((i : Int) + 1) = ((i + 1 : Nat) : Int) := by unfold wrap64; omega
      rw [hw]
      exact like_loop a b h hm n (i + 1) (by omega) (by omega)
    · rw [if_neg (by omega)]
theorem like_ok (a b : List S30) (h : a.map core = b.map core) (hm : a.length ≤ 1000000) : runnellaw3_like.f (a.length + 1) a b = some true := by
  have hl : a.length = b.length := by simpa using congrArg List.length h
  rw [runnellaw3_like.f, if_pos (by omega)]
  exact like_loop a b h hm a.length 0 (by omega) (by omega)
theorem core_shift (d : Nat) (l : List S30) : (l.map (shiftT d)).map core = l.map core := by
  rw [List.map_map]; rfl
theorem lex_len : ∀ (n : Nat) (l : List UInt8) (at_ : Nat) (ts : List S30), l.length ≤ n → lex l at_ = .inr ts → ts.length ≤ l.length + 1
  | n, [], at_, ts, hn, h => by
    rw [lex_nil] at h
    injection h with h; rw [← h]; simp
  | 0, c :: r, at_, ts, hn, h => by simp at hn
  | n + 1, c :: r, at_, ts, hn, h => by
    simp only [List.length_cons] at hn ⊢
    rcases lex_ways c with h1 | rfl | h3 | ⟨h1, h2, h3⟩
    · rw [lex_blank _ _ h1] at h; have := lex_len n _ _ _ (by omega) h; omega
    · rw [lex_note] at h
      have hd := (List.dropWhile_sublist (fun c : UInt8 => c != 10) (l := r)).length_le
      have := lex_len n _ _ _ (by omega) h; omega
    · rw [lex_word _ _ h3] at h
      have hd := (List.dropWhile_sublist (hasB partsT) (l := r)).length_le
      split at h
      · cases h
      · cases hx : lex (r.dropWhile (hasB partsT)) (at_ + 1 + (r.takeWhile (hasB partsT)).length) with
        | inl k => rw [hx] at h; cases h
        | inr us =>
          rw [hx] at h; injection h with h; rw [← h]
          have := lex_len n _ _ _ (by omega) hx
          simp; omega
    · rw [lex_sign _ _ h1 h2 h3] at h
      split at h
      · cases h
      · cases hx : lex (r.drop (sg (c :: r) - 1)) (at_ + sg (c :: r)) with
        | inl k => rw [hx] at h; cases h
        | inr us =>
          rw [hx] at h; injection h with h; rw [← h]
          have := lex_len n _ _ _ (by simp; omega) hx
          simp at this ⊢; omega
theorem map_inl {x : Nat ⊕ List S30} {f : List S30 → List S30} {k : Nat} (h : x.map id f = .inl k) : x = .inl k := by
  cases x with
  | inl j => exact h
  | inr us => cases h
theorem lex_inl : ∀ (n : Nat) (l : List UInt8) (at_ k : Nat), l.length ≤ n → lex l at_ = .inl k → at_ ≤ k ∧ k < at_ + l.length
  | n, [], at_, k, hn, h => by rw [lex_nil] at h; cases h
  | 0, c :: r, at_, k, hn, h => by simp at hn
  | n + 1, c :: r, at_, k, hn, h => by
    simp only [List.length_cons] at hn ⊢
    rcases lex_ways c with h1 | rfl | h3 | ⟨h1, h2, h3⟩
    · rw [lex_blank _ _ h1] at h; have := lex_inl n _ _ _ (by omega) h; omega
    · rw [lex_note] at h
      have hl := congrArg List.length (List.takeWhile_append_dropWhile (p := fun c : UInt8 => c != 10) (l := r))
      rw [List.length_append] at hl
      have := lex_inl n _ _ _ (by omega) h; omega
    · rw [lex_word _ _ h3] at h
      have hl := congrArg List.length (List.takeWhile_append_dropWhile (p := hasB partsT) (l := r))
      rw [List.length_append] at hl
      split at h
      · injection h with h; omega
      · have := lex_inl n _ _ _ (by omega) (map_inl h); omega
    · rw [lex_sign _ _ h1 h2 h3] at h
      have := sg_le (c :: r)
      simp only [List.length_cons] at this
      split at h
      · injection h with h; omega
      · have := lex_inl n _ _ _ (by simp; omega) (map_inl h)
        simp only [List.length_drop] at this
        omega
/-- The whole of two texts with a line feed between. -/
def both (s t : ByteArray) : ByteArray := s ++ ⟨#[10]⟩ ++ t
theorem both_list (s t : ByteArray) : (both s t).data.toList = s.data.toList ++ 10 :: t.data.toList := by
  simp [both, ByteArray.data_append]
theorem both_size (s t : ByteArray) : (both s t).size = s.size + 1 + t.size := by
  rw [← data_len, both_list, List.length_append, List.length_cons, data_len, data_len]; omega
theorem rows_cases (s t : ByteArray) (hs : s.size ≤ 1000) (ht : t.size ≤ 1000) :
    (∃ (n : Nat) (lb : List S30) (m f : Int), cutR s = ([], (n : Int), 2) ∧ cutR t = (lb, m, f) ∧ cutR (both s t) = ([], (n : Int), 2)) ∨
    (∃ (a : List S30) (m : Nat), m ≤ t.size ∧ cutR s = (a, 0, 0) ∧ cutR t = ([], (m : Int), 2) ∧ cutR (both s t) = ([], (s.size : Int) + 1 + m, 2)) ∨
    (∃ a b c : List S30, cutR s = (a, 0, 0) ∧ cutR t = (b, 0, 0) ∧ cutR (both s t) = (c, 0, 0) ∧ 1 ≤ a.length ∧ a.length ≤ 1001 ∧ b.length ≤ 1001 ∧ c.length ≤ 3000 ∧ c.map core = (a.take (a.length - 1) ++ b).map core) := by
  rw [cutR_lex s (by omega), cutR_lex t (by omega), cutR_lex (both s t) (by rw [both_size]; omega), both_list, lex_sep 10 _ _ _ _ (Nat.le_refl _) (.inl rfl)]
  have hsh := lex_shift (s.size + 1) _ t.data.toList 0 (Nat.le_refl _)
  rw [data_len, show 0 + s.size + 1 = 0 + (s.size + 1) by omega, hsh]
  cases hx : lex s.data.toList 0 with
  | inl n =>
    rcases hy : outcome [] (lex t.data.toList 0) with ⟨lb, m, f⟩
    exact .inl ⟨n, lb, m, f, rfl, rfl, rfl⟩
  | inr a =>
    cases hy : lex t.data.toList 0 with
    | inl m =>
      refine .inr (.inl ⟨a, m, ?_, rfl, rfl, ?_⟩)
      · have := lex_inl _ _ _ _ (Nat.le_refl _) hy; rw [data_len] at this; omega
      · simp only [outcome, then_, Sum.map_inl]
        simp; omega
    | inr b =>
      have ha := lex_len _ _ _ _ (Nat.le_refl _) hx
      have hb := lex_len _ _ _ _ (Nat.le_refl _) hy
      have hn := lex_ne _ _ _ _ (Nat.le_refl _) hx
      rw [data_len] at ha hb
      refine .inr (.inr ⟨a, b, a.dropLast ++ b.map (shiftT (s.size + 1)), rfl, rfl, rfl, List.length_pos_iff.2 hn, by omega, by omega, by simp; omega, ?_⟩)
      rw [List.map_append, core_shift, List.map_append, List.dropLast_eq_take]
end Go.Proofs.YtjlcbhlpibgplaaDoor.P
