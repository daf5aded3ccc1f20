/- Words, plainly: what Cut makes of one word. -/
import Derived.Test.YtjlcbhlpibgplaaDoorTokF
namespace Go.Proofs.YtjlcbhlpibgplaaDoor.P
open Go.RowKit
set_option linter.unusedVariables false
set_option linter.unusedSimpArgs false
theorem contains_mem {a b : List UInt8} (h : Lib.contains a b = true) : ∀ c ∈ b, c ∈ a := by
  rcases Lib.index_spec a b with ⟨h1, _⟩ | ⟨i, h1, h2, h3, _⟩
  · simp [Lib.contains, h1] at h
  · have h4 : b <+: a.drop i := by simpa [Lib.occAt] using h3
    intro c hc
    exact List.mem_of_mem_drop (h4.subset hc)
theorem spaced_list (s : ByteArray) : (spaced s).data.toList = 32 :: (s.data.toList ++ [32]) := by
  simp [spaced, ByteArray.data_append]
set_option maxRecDepth 100000 in
theorem kept_bytes : (keptText.data.toList.all fun c => c == 32 || hasB partsT c) = true := by kernel_rfl
set_option maxRecDepth 100000 in
theorem part_bytes : (partsT.data.toList.all fun c => !hasB blanksT c && c != 35) = true := by kernel_rfl
theorem part_not {c : UInt8} (h : hasB partsT c = true) : hasB blanksT c = false ∧ c ≠ 35 := by
  have h1 : c ∈ partsT.data.toList := by simpa [hasB] using h
  have h2 := List.all_eq_true.1 part_bytes c h1
  simpa using h2
theorem kept_parts (s : ByteArray) (h : keptB s = true) : 0 < s.size ∧ onlyB partsT s = true := by
  simp only [keptB, Bool.and_eq_true, decide_eq_true_eq, Bool.not_eq_true'] at h
  obtain ⟨⟨h0, h1⟩, h2⟩ := h
  refine ⟨by omega, ?_⟩
  rw [onlyB, List.all_eq_true]
  intro c hc
  have h3 : c ∈ keptText.data.toList := contains_mem h2 c (by rw [spaced_list]; simp [hc])
  have h4 := List.all_eq_true.1 kept_bytes c h3
  rcases Bool.or_eq_true _ _ ▸ h4 with h5 | h5
  · have h6 : c = 32 := by simpa using h5
    subst h6
    have h7 : hasB s 32 = true := by simpa [hasB] using hc
    rw [h1] at h7
    cases h7
  · exact h5
theorem run_all (p : UInt8 → Bool) : ∀ l : List UInt8, l.all p = true → l.takeWhile p = l
  | [], _ => rfl
  | c :: l, h => by
    simp only [List.all_cons, Bool.and_eq_true] at h
    rw [List.takeWhile_cons, if_pos h.1, run_all p l h.2]
theorem run_only (sm s : ByteArray) (h : onlyB sm s = true) : runTo (hasB sm) s 0 = s.size := by
  rw [runTo, List.drop_zero, run_all _ _ h, data_len]; omega
theorem only_first (sm s : ByteArray) (h : onlyB sm s = true) (h0 : 0 < s.size) : hasB sm s[0] = true := by
  refine List.all_eq_true.1 h _ ?_
  rw [← data_at s 0 h0]
  exact List.getElem_mem _
theorem extract_all (s : ByteArray) : s.extract 0 s.size = s := by
  cases s with | mk a =>
  show ByteArray.extract ⟨a⟩ 0 a.size = ⟨a⟩
  apply ByteArray.ext
  simp
theorem cut_end (s : ByteArray) (n i : Nat) (l : List S30) (h : s.size ≤ i) : cutN s (n + 1) i l = (l ++ [⟨5, 0, s.size, ⟨#[]⟩⟩], 0, 0) := by
  rw [cutN, dif_neg (by omega)]
/-- A text of letters and digits is one word, or none. -/
theorem cut_word (s : ByteArray) (h : onlyB partsT s = true) (h0 : 0 < s.size) (hs : s.size ≤ 20000) :
    cutR s = if wordK s = 0 then ([], 0, 2) else ([⟨wordK s, wordV s, 0, s⟩, ⟨5, 0, s.size, ⟨#[]⟩⟩], 0, 0) := by
  have hf := only_first partsT s h h0
  obtain ⟨hb, h35⟩ := part_not hf
  have hp := run_only partsT s h
  have hbl : runTo (hasB blanksT) s 0 = 0 := runTo_no _ s 0 h0 hb
  rw [cutR, if_neg (by omega), cutN, dif_pos h0, hbl, if_neg (by omega), if_neg h35, hp, if_pos h0, extract_all]
  obtain ⟨m, hm⟩ : ∃ m, s.size = m + 1 := ⟨s.size - 1, by omega⟩
  by_cases hk : wordK s = 0
  · rw [if_pos hk, if_pos hk]; rfl
  · rw [if_neg hk, if_neg hk]
    have := cut_end s m s.size ([] ++ [⟨wordK s, wordV s, (0 : Nat), s⟩]) (Nat.le_refl _)
    rw [← hm] at this
    rw [this]
    rfl
/-- What is cut behind i begins there or later. -/
theorem cut_first (s : ByteArray) : ∀ (n i : Nat) (l l' : List S30) (k : Int), s.size < n + i → i ≤ s.size → cutN s n i l = (l', k, 0) → ∃ rest, l' = l ++ rest ∧ ∀ t ∈ rest.head?, (i : Int) ≤ t.f2
  | 0, i, l, l', k, hn, hi, h => by omega
  | n + 1, i, l, l', k, hn, hi, h => by
    rw [cutN] at h
    split at h
    · rename_i hlt
      split at h
      · rename_i hb
        obtain ⟨rest, h1, h2⟩ := cut_first s n _ l l' k (by omega) (runTo_le _ _ _ hi) h
        exact ⟨rest, h1, fun t ht => by have := h2 t ht; omega⟩
      · split at h
        · rename_i hb h35
          have hq : i < runTo (fun c => c != 10) s i := by rw [runTo_yes _ s i hlt (by rw [h35]; rfl)]; exact runTo_ge _ _ _
          obtain ⟨rest, h1, h2⟩ := cut_first s n _ l l' k (by omega) (runTo_le _ _ _ hi) h
          exact ⟨rest, h1, fun t ht => by have := h2 t ht; omega⟩
        · split at h
          · rename_i hp
            split at h
            · injection h with _ h; injection h with _ h; cases h
            · obtain ⟨rest, h1, h2⟩ := cut_first s n _ _ l' k (by omega) (runTo_le _ _ _ hi) h
              refine ⟨_ :: rest, by rw [h1, List.append_assoc]; rfl, ?_⟩
              intro t ht
              obtain rfl : _ = t := by simpa using ht
              exact Int.le_refl _
          · split at h
            · injection h with _ h; injection h with _ h; cases h
            · rename_i hsg
              have hes : (s.extract i s.size).size = s.size - i := by simp
              have hle := sign_le (s.extract i s.size) (by omega)
              obtain ⟨rest, h1, h2⟩ := cut_first s n _ _ l' k (by omega) (by omega) h
              refine ⟨_ :: rest, by rw [h1, List.append_assoc]; rfl, ?_⟩
              intro t ht
              obtain rfl : _ = t := by simpa using ht
              exact Int.le_refl _
    · injection h with h1 h2
      exact ⟨_, h1.symm, fun t ht => by obtain rfl : _ = t := by simpa using ht
                                        show (i : Int) ≤ (s.size : Int); omega⟩
end Go.Proofs.YtjlcbhlpibgplaaDoor.P
