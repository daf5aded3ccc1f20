/- TokenWords, plainly. -/
import Derived.Test.YtjlcbhlpibgplaaDoorTokH
namespace Go.Proofs.YtjlcbhlpibgplaaDoor.P
open Go.RowKit
set_option linter.unusedVariables false
set_option linter.unusedSimpArgs false
theorem while_full (p : UInt8 → Bool) : ∀ l : List UInt8, (l.takeWhile p).length = l.length → l.all p = true
  | [], _ => rfl
  | c :: l, h => by
    by_cases hc : p c = true
    · rw [List.takeWhile_cons, if_pos hc] at h
      simp only [List.length_cons] at h
      rw [List.all_cons, hc, while_full p l (by omega)]
      rfl
    · rw [List.takeWhile_cons, if_neg hc] at h
      simp at h
theorem run_full (sm s : ByteArray) (h : s.size ≤ runTo (hasB sm) s 0) : onlyB sm s = true := by
  refine while_full _ _ ?_
  have h1 := runTo_le (hasB sm) s 0 (Nat.zero_le _)
  have h2 : runTo (hasB sm) s 0 = ((s.data.toList.drop 0).takeWhile (hasB sm)).length := by unfold runTo; omega
  rw [List.drop_zero] at h2
  rw [data_len]; omega
set_option maxRecDepth 100000 in
theorem no_minus : hasB partsT 45 = false := by kernel_rfl
theorem num_pos (s : ByteArray) (h : onlyB partsT s = true) (v : Int) (hv : numOf s = some v) : 0 ≤ v := by
  unfold numOf at hv
  split at hv
  · rename_i u hu
    split at hv
    · rename_i hi
      injection hv with hv
      by_cases hneg : u < 0
      · have h2 : (45 : UInt8) ∈ s.data.toList := by rw [← hi, Lib.itoa, if_pos hneg]; simp
        have h3 := List.all_eq_true.1 h _ h2
        rw [no_minus] at h3
        cases h3
      · omega
    · cases hv
  · cases hv
def RestB (s : ByteArray) (r : List S30 × Int × Int) : Prop :=
  r.2.2 ≠ 0 ∨ (r.2.2 = 0 ∧ r.1.length ≠ 2) ∨ (r.2.2 = 0 ∧ ∃ a b, r.1 = [a, b] ∧ (a.f2 ≠ 0 ∨ (a.f2 = 0 ∧ a.f3 ≠ s) ∨ (a.f2 = 0 ∧ a.f3 = s ∧ a.f0 = 3) ∨ (a.f2 = 0 ∧ a.f3 = s ∧ a.f0 = 2 ∧ 0 ≤ a.f1)))
theorem two_of {l : List S30} (h : l.length = 2) : ∃ a b, l = [a, b] := by
  match l, h with
  | [a, b], _ => exact ⟨a, b, rfl⟩
theorem rest_of (s : ByteArray) (hs : s.size ≤ 500) (h : ¬ (onlyB partsT s = true ∧ 0 < s.size)) : RestB s (cutR s) := by
  rw [cutR, if_neg (by omega)]
  rcases hr : cutN s (s.size + 1) 0 [] with ⟨l', k, e⟩
  by_cases he : e = 0
  · subst he
    by_cases hl : l'.length = 2
    · obtain ⟨a, b, rfl⟩ := two_of hl
      refine .inr (.inr ⟨rfl, a, b, rfl, ?_⟩)
      rw [cutN] at hr
      split at hr
      · rename_i h0
        split at hr
        · rename_i hb
          obtain ⟨rest, h1, h2⟩ := cut_first s _ _ _ _ _ (by omega) (runTo_le _ _ _ (Nat.zero_le _)) hr
          have h3 := h2 a (by rw [List.nil_append] at h1; rw [← h1]; rfl)
          exact .inl (by omega)
        · split at hr
          · rename_i hb h35
            have hq : 0 < runTo (fun c => c != 10) s 0 := by rw [runTo_yes _ s 0 h0 (by rw [h35]; rfl)]; exact runTo_ge _ _ _
            obtain ⟨rest, h1, h2⟩ := cut_first s _ _ _ _ _ (by omega) (runTo_le _ _ _ (Nat.zero_le _)) hr
            have h3 := h2 a (by rw [List.nil_append] at h1; rw [← h1]; rfl)
            exact .inl (by omega)
          · split at hr
            · rename_i hp
              split at hr
              · injection hr with _ hr; injection hr with _ hr; cases hr
              · have hpl : runTo (hasB partsT) s 0 ≤ s.size := runTo_le _ _ _ (Nat.zero_le _)
                obtain ⟨rest, h1, h2⟩ := cut_first s _ _ _ _ _ (by omega) hpl hr
                rw [List.nil_append, List.singleton_append] at h1
                injection h1 with h1 h3
                refine .inr (.inl ⟨by rw [h1]; rfl, fun h4 => h ⟨run_full partsT s ?_, h0⟩⟩)
                rw [h1] at h4
                have h5 : (s.extract 0 (runTo (hasB partsT) s 0)).size = s.size := congrArg ByteArray.size h4
                simp at h5
                omega
            · split at hr
              · injection hr with _ hr; injection hr with _ hr; cases hr
              · have hes : (s.extract 0 s.size).size = s.size := by simp
                have hle := sign_le (s.extract 0 s.size) (by omega)
                obtain ⟨rest, h1, h2⟩ := cut_first s _ _ _ _ _ (by omega) (by omega) hr
                rw [List.nil_append, List.singleton_append] at h1
                injection h1 with h1 h3
                by_cases h4 : a.f3 = s
                · exact .inr (.inr (.inl ⟨by rw [h1]; rfl, h4, by rw [h1]⟩))
                · exact .inr (.inl ⟨by rw [h1]; rfl, h4⟩)
      · injection hr with hr _
        cases hr
    · exact .inr (.inl ⟨rfl, hl⟩)
  · exact .inl he
/-- All that TokenWords asks. -/
theorem words_cases (s : ByteArray) (hs : s.size ≤ 500) :
    (keptB s = true ∧ identB s = false ∧ cutR s = ([⟨4, 0, 0, s⟩, ⟨5, 0, s.size, ⟨#[]⟩⟩], 0, 0)) ∨ (keptB s = false ∧ identB s = true ∧ cutR s = ([⟨1, 0, 0, s⟩, ⟨5, 0, s.size, ⟨#[]⟩⟩], 0, 0)) ∨ (keptB s = false ∧ identB s = false ∧ RestB s (cutR s)) := by
  cases hk : keptB s with
  | true =>
    obtain ⟨h0, hp⟩ := kept_parts s hk
    have hi : identB s = false := by simp [identB, hk]
    have h4 : wordK s = 4 := by simp [wordK, hk]
    have hv : wordV s = 0 := by simp [wordV, hk]
    exact .inl ⟨rfl, hi, by rw [cut_word s hp h0 (by omega), h4, hv]; rfl⟩
  | false =>
    cases hi : identB s with
    | true =>
      have hp : onlyB partsT s = true ∧ 0 < s.size := by
        simp only [identB, Bool.and_eq_true, decide_eq_true_eq] at hi
        exact ⟨hi.1.1.2, by omega⟩
      have h1 : wordK s = 1 := by simp [wordK, hk, hi]
      have hv : wordV s = 0 := by simp [wordV, hk, hi]
      exact .inr (.inl ⟨rfl, rfl, by rw [cut_word s hp.1 hp.2 (by omega), h1, hv]; rfl⟩)
    | false =>
      refine .inr (.inr ⟨rfl, rfl, ?_⟩)
      by_cases hp : onlyB partsT s = true ∧ 0 < s.size
      · rw [cut_word s hp.1 hp.2 (by omega)]
        cases hn : numOf s with
        | none =>
          have h0 : wordK s = 0 := by simp [wordK, hk, hi, hn]
          rw [if_pos h0]
          exact .inl (by decide)
        | some v =>
          have h2 : wordK s = 2 := by simp [wordK, hk, hi, hn]
          have hv : wordV s = v := by simp [wordV, hk, hi, hn]
          rw [h2, hv, if_neg (by decide)]
          exact .inr (.inr ⟨rfl, _, _, rfl, .inr (.inr (.inr ⟨rfl, rfl, rfl, num_pos s hp.1 v hn⟩))⟩)
      · exact rest_of s hs hp
end Go.Proofs.YtjlcbhlpibgplaaDoor.P
