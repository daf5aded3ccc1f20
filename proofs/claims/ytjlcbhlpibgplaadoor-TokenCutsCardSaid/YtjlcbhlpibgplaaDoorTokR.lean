/- Words, plainly: what Cut makes of one word. Cut, over lists. Cut of two texts with a byte between them, over lists. Two texts with a line feed between, plainly; what is alike. -/
import Derived.Test.YtjlcbhlpibgplaaDoorTokF
import Derived.Test.YtjlcbhlpibgplaaDoorPf14
namespace Go.Proofs.YtjlcbhlpibgplaaDoor.P
open Go.RowKit
set_option linter.unusedVariables false
set_option linter.unusedSimpArgs false
theorem contains_mem {a b : List UInt8} (h : Lib.contains a b = true) : ∀ c ∈ b, c ∈ a := by
  rcases Lib.index_spec a b with ⟨h1, _⟩ | ⟨i, h1, h2, h3, _⟩
  · simp [Lib.contains, h1] at h
  · have h4 : b <+: a.drop i := by simpa [Lib.occAt] using h3
    intro c hc
    exact List.mem_of_mem_drop (h4.subset hc)
theorem spaced_list (s : ByteArray) : (spaced s).data.toList = 32 :: (s.data.toList ++ [32]) := by
  simp [spaced, ByteArray.data_append]
set_option maxRecDepth 100000 in
theorem kept_bytes : (keptText.data.toList.all fun c => c == 32 || hasB partsT c) = true := by kernel_rfl
set_option maxRecDepth 100000 in
theorem part_bytes : (partsT.data.toList.all fun c => !hasB blanksT c && c != 35) = true := by kernel_rfl
theorem part_not {c : UInt8} (h : hasB partsT c = true) : hasB blanksT c = false ∧ c ≠ 35 := by
  have h1 : c ∈ partsT.data.toList := by simpa [hasB] using h
  have h2 := List.all_eq_true.1 part_bytes c h1
  simpa using h2
theorem kept_parts (s : ByteArray) (h : keptB s = true) : 0 < s.size ∧ onlyB partsT s = true := by
  simp only [keptB, Bool.and_eq_true, decide_eq_true_eq, Bool.not_eq_true'] at h
  obtain ⟨⟨h0, h1⟩, h2⟩ := h
  refine ⟨by omega, ?_⟩
  rw [onlyB, List.all_eq_true]
  intro c hc
  have h3 : c ∈ keptText.data.toList := contains_mem h2 c (by rw [spaced_list]; simp [hc])
  have h4 := List.all_eq_true.1 kept_bytes c h3
  rcases Bool.or_eq_true _ _ ▸ h4 with h5 | h5
  · have h6 : c = 32 := by simpa using h5
    subst h6
    have h7 : hasB s 32 = true := by simpa [hasB] using hc
    rw [h1] at h7
    cases h7
  · exact h5
theorem run_all (p : UInt8 → Bool) : ∀ l : List UInt8, l.all p = true → l.takeWhile p = l
  | [], _ => rfl
  | c :: l, h => by
    simp only [List.all_cons, Bool.and_eq_true] at h
    rw [List.takeWhile_cons, if_pos h.1, run_all p l h.2]
theorem run_only (sm s : ByteArray) (h : onlyB sm s = true) : runTo (hasB sm) s 0 = s.size := by
  rw [runTo, List.drop_zero, run_all _ _ h, data_len]; omega
theorem only_first (sm s : ByteArray) (h : onlyB sm s = true) (h0 : 0 < s.size) : hasB sm s[0] = true := by
  refine List.all_eq_true.1 h _ ?_
  rw [← data_at s 0 h0]
  exact List.getElem_mem _
theorem extract_all (s : ByteArray) : s.extract 0 s.size = s := by
  cases s with | mk a =>
  show ByteArray.extract ⟨a⟩ 0 a.size = ⟨a⟩
  apply ByteArray.ext
  simp
theorem cut_end (s : ByteArray) (n i : Nat) (l : List S30) (h : s.size ≤ i) : cutN s (n + 1) i l = (l ++ [⟨5, 0, s.size, ⟨#[]⟩⟩], 0, 0) := by
  rw [cutN, dif_neg (by omega)]
/-- A text of letters and digits is one word, or none. -/
theorem cut_word (s : ByteArray) (h : onlyB partsT s = true) (h0 : 0 < s.size) (hs : s.size ≤ 20000) :
    cutR s = if wordK s = 0 then ([], 0, 2) else ([⟨wordK s, wordV s, 0, s⟩, ⟨5, 0, s.size, ⟨#[]⟩⟩], 0, 0) := by
  have hf := only_first partsT s h h0
  obtain ⟨hb, h35⟩ := part_not hf
  have hp := run_only partsT s h
  have hbl : runTo (hasB blanksT) s 0 = 0 := runTo_no _ s 0 h0 hb
  rw [cutR, if_neg (by omega), cutN, dif_pos h0, hbl, if_neg (by omega), if_neg h35, hp, if_pos h0, extract_all]
  obtain ⟨m, hm⟩ : ∃ m, s.size = m + 1 := ⟨s.size - 1, by omega⟩
  by_cases hk : wordK s = 0
  · rw [if_pos hk, if_pos hk]; rfl
  · rw [if_neg hk, if_neg hk]
    have := cut_end s m s.size ([] ++ [⟨wordK s, wordV s, (0 : Nat), s⟩]) (Nat.le_refl _)
    rw [← hm] at this
    rw [this]
    rfl
/-- What is cut behind i begins there or later. -/
theorem cut_first (s : ByteArray) : ∀ (n i : Nat) (l l' : List S30) (k : Int), s.size < n + i → i ≤ s.size → cutN s n i l = (l', k, 0) → ∃ rest, l' = l ++ rest ∧ ∀ t ∈ rest.head?, (i : Int) ≤ t.f2
  | 0, i, l, l', k, hn, hi, h => by omega
  | n + 1, i, l, l', k, hn, hi, h => by
    rw [cutN] at h
    split at h
    · rename_i hlt
      split at h
      · rename_i hb
        obtain ⟨rest, h1, h2⟩ := cut_first s n _ l l' k (by omega) (runTo_le _ _ _ hi) h
        exact ⟨rest, h1, fun t ht => by have := h2 t ht; omega⟩
      · split at h
        · rename_i hb h35
          have hq : i < runTo (fun c => c != 10) s i := by rw [runTo_yes _ s i hlt (by rw [h35]; rfl)]; exact runTo_ge _ _ _
          obtain ⟨rest, h1, h2⟩ := cut_first s n _ l l' k (by omega) (runTo_le _ _ _ hi) h
          exact ⟨rest, h1, fun t ht => by have := h2 t ht; omega⟩
        · split at h
          · rename_i hp
            split at h
            · injection h with _ h; injection h with _ h; cases h
            · obtain ⟨rest, h1, h2⟩ := cut_first s n _ _ l' k (by omega) (runTo_le _ _ _ hi) h
              refine ⟨_ :: rest, by rw [h1, List.append_assoc]; rfl, ?_⟩
              intro t ht
              obtain rfl : _ = t := by simpa using ht
              exact Int.le_refl _
          · split at h
            · injection h with _ h; injection h with _ h; cases h
            · rename_i hsg
              have hes : (s.extract i s.size).size = s.size - i := by simp
              have hle := sign_le (s.extract i s.size) (by omega)
              obtain ⟨rest, h1, h2⟩ := cut_first s n _ _ l' k (by omega) (by omega) h
              refine ⟨_ :: rest, by rw [h1, List.append_assoc]; rfl, ?_⟩
              intro t ht
              obtain rfl : _ = t := by simpa using ht
              exact Int.le_refl _
    · injection h with h1 h2
      exact ⟨_, h1.symm, fun t ht => by obtain rfl : _ = t := by simpa using ht
                                        show (i : Int) ≤ (s.size : Int); omega⟩
end Go.Proofs.YtjlcbhlpibgplaaDoor.P
namespace Go.Proofs.YtjlcbhlpibgplaaDoor.P
open Go.RowKit
set_option linter.unusedVariables false
set_option linter.unusedSimpArgs false
abbrev bs (l : List UInt8) : ByteArray := ⟨l.toArray⟩
/-- Tokens of a list of bytes, which stands at a place; left: the place of what is none. -/
def lex (l : List UInt8) (at_ : Nat) : Nat ⊕ List S30 :=
  match l with
  | [] => .inr [⟨5, 0, at_, ⟨#[]⟩⟩]
  | c :: r =>
    if hasB blanksT c = true then lex r (at_ + 1)
    else if c = 35 then lex (r.dropWhile (fun c => c != 10)) (at_ + 1 + (r.takeWhile (fun c => c != 10)).length)
    else if hasB partsT c = true then
      if wordK (bs (c :: r.takeWhile (hasB partsT))) = 0 then .inl at_
      else (lex (r.dropWhile (hasB partsT)) (at_ + 1 + (r.takeWhile (hasB partsT)).length)).map id (⟨wordK (bs (c :: r.takeWhile (hasB partsT))), wordV (bs (c :: r.takeWhile (hasB partsT))), at_, bs (c :: r.takeWhile (hasB partsT))⟩ :: ·)
    else if signN (bs (c :: r)) = 0 then .inl at_
    else (lex (r.drop (signN (bs (c :: r)) - 1)) (at_ + signN (bs (c :: r)))).map id (⟨3, 0, at_, bs ((c :: r).take (signN (bs (c :: r))))⟩ :: ·)
termination_by l.length
decreasing_by
  · simp
  · have := (List.dropWhile_sublist (fun c : UInt8 => c != 10) (l := r)).length_le; simp; omega
  · have := (List.dropWhile_sublist (hasB partsT) (l := r)).length_le; simp; omega
  · simp; omega
/-- What is cut, out of tokens or a place. -/
def outcome (l : List S30) (x : Nat ⊕ List S30) : List S30 × Int × Int := match x with
  | .inl k => ([], (k : Int), 2)
  | .inr ts => (l ++ ts, 0, 0)
theorem outcome_cons (l : List S30) (t : S30) (x : Nat ⊕ List S30) : outcome l (x.map id (t :: ·)) = outcome (l ++ [t]) x := by
  cases x with
  | inl k => rfl
  | inr ts => simp [outcome]
theorem bs_list (s : ByteArray) : bs s.data.toList = s := by cases s with | mk a => simp [bs]
theorem list_bs (l : List UInt8) : (bs l).data.toList = l := by simp [bs]
theorem bs_size (l : List UInt8) : (bs l).size = l.length := by show l.toArray.size = l.length; simp
theorem drop_while (p : UInt8 → Bool) : ∀ l : List UInt8, l.drop (l.takeWhile p).length = l.dropWhile p
  | [] => rfl
  | c :: l => by
    by_cases h : p c = true
    · rw [List.takeWhile_cons, if_pos h, List.dropWhile_cons, if_pos h, List.length_cons, List.drop_succ_cons, drop_while p l]
    · rw [List.takeWhile_cons, if_neg h, List.dropWhile_cons, if_neg h]; rfl
theorem take_while (p : UInt8 → Bool) : ∀ l : List UInt8, l.take (l.takeWhile p).length = l.takeWhile p
  | [] => rfl
  | c :: l => by
    by_cases h : p c = true
    · rw [List.takeWhile_cons, if_pos h, List.length_cons, List.take_succ_cons, take_while p l]
    · rw [List.takeWhile_cons, if_neg h]; rfl
theorem drop_run (p : UInt8 → Bool) (s : ByteArray) (i : Nat) : s.data.toList.drop (runTo p s i) = (s.data.toList.drop i).dropWhile p := by
  rw [runTo, ← List.drop_drop, drop_while]
theorem extract_bs (s : ByteArray) (i j : Nat) : s.extract i j = bs ((s.data.toList.drop i).take (j - i)) := by
  cases s with | mk a =>
  apply ByteArray.ext
  apply Array.toList_inj.1
  simp [bs, List.drop_take]
theorem extract_run (p : UInt8 → Bool) (s : ByteArray) (i : Nat) : s.extract i (runTo p s i) = bs ((s.data.toList.drop i).takeWhile p) := by
  rw [extract_bs, runTo, Nat.add_sub_cancel_left, take_while]
theorem lex_blanks : ∀ (l : List UInt8) (i : Nat), lex l i = lex (l.dropWhile (hasB blanksT)) (i + (l.takeWhile (hasB blanksT)).length)
  | [], i => by simp
  | c :: l, i => by
    by_cases h : hasB blanksT c = true
    · rw [lex, if_pos h, lex_blanks l (i + 1), List.takeWhile_cons, if_pos h, List.dropWhile_cons, if_pos h, List.length_cons]
      congr 1
      omega
    · rw [List.takeWhile_cons, if_neg h, List.dropWhile_cons, if_neg h]; rfl
theorem run_cons (p : UInt8 → Bool) (s : ByteArray) (i : Nat) (h : i < s.size) : s.data.toList.drop i = s[i] :: s.data.toList.drop (i + 1) := drop_at s i h
theorem run_gt (p : UInt8 → Bool) (s : ByteArray) (i : Nat) (h : i < s.size) : i < runTo p s i ↔ p s[i] = true := by
  by_cases hp : p s[i] = true
  · have := runTo_ge p s (i + 1); rw [runTo_yes p s i h hp]; simp [hp]; omega
  · rw [runTo_no p s i h (by simpa using hp)]; simp [hp]
theorem cut_lex (s : ByteArray) : ∀ (n i : Nat) (l : List S30), s.size < n + i → i ≤ s.size → cutN s n i l = outcome l (lex (s.data.toList.drop i) i)
  | 0, i, l, hn, hi => by omega
  | n + 1, i, l, hn, hi => by
    by_cases hlt : i < s.size
    · rw [cutN, dif_pos hlt]
      by_cases hb : i < runTo (hasB blanksT) s i
      · rw [if_pos hb, cut_lex s n _ l (by omega) (runTo_le _ _ _ hi), drop_run, lex_blanks (s.data.toList.drop i) i]
        rfl
      · have hb' : ¬ hasB blanksT s[i] = true := fun h => hb ((run_gt _ _ _ hlt).2 h)
        rw [if_neg hb]
        by_cases h35 : s[i] = 35
        · rw [if_pos h35, drop_at s i hlt, lex, if_neg hb', if_pos h35]
          have hr : runTo (fun c => c != 10) s i = runTo (fun c => c != 10) s (i + 1) := runTo_yes _ s i hlt (by rw [h35]; rfl)
          have hg := runTo_ge (fun c => c != 10) s (i + 1)
          rw [hr, cut_lex s n _ l (by omega) (runTo_le _ _ _ (by omega)), drop_run]
          rfl
        · rw [if_neg h35]
          by_cases hp : i < runTo (hasB partsT) s i
          · have hp' : hasB partsT s[i] = true := (run_gt _ _ _ hlt).1 hp
            have hx : s.extract i (runTo (hasB partsT) s i) = bs (s[i] :: (s.data.toList.drop (i + 1)).takeWhile (hasB partsT)) := by
              rw [extract_run, drop_at s i hlt, List.takeWhile_cons, if_pos hp']
            rw [if_pos hp, hx, drop_at s i hlt, lex, if_neg hb', if_neg h35, if_pos hp']
            by_cases hk : wordK (bs (s[i] :: (s.data.toList.drop (i + 1)).takeWhile (hasB partsT))) = 0
            · rw [if_pos hk, if_pos hk]; rfl
            · rw [if_neg hk, if_neg hk, outcome_cons, runTo_yes _ s i hlt hp']
              have hg := runTo_ge (hasB partsT) s (i + 1)
              rw [cut_lex s n _ _ (by omega) (runTo_le _ _ _ (by omega)), drop_run]
              rfl
          · have hp' : ¬ hasB partsT s[i] = true := fun h => hp ((run_gt _ _ _ hlt).2 h)
            have hx : s.extract i s.size = bs (s[i] :: s.data.toList.drop (i + 1)) := by
              rw [extract_bs, ← drop_at s i hlt, List.take_of_length_le (by rw [List.length_drop, data_len]; omega)]
            rw [if_neg hp, hx, drop_at s i hlt, lex, if_neg hb', if_neg h35, if_neg hp']
            by_cases hk : signN (bs (s[i] :: s.data.toList.drop (i + 1))) = 0
            · rw [if_pos hk, if_pos hk]; rfl
            · have hle := sign_le (bs (s[i] :: s.data.toList.drop (i + 1))) (by rw [bs_size]; simp)
              rw [bs_size, List.length_cons, List.length_drop, data_len] at hle
              rw [if_neg hk, if_neg hk, outcome_cons, cut_lex s n _ _ (by omega) (by omega), List.drop_drop, extract_bs, drop_at s i hlt]
              rw [show i + 1 + (signN (bs (s[i] :: s.data.toList.drop (i + 1))) - 1) = i + signN (bs (s[i] :: s.data.toList.drop (i + 1))) by omega, Nat.add_sub_cancel_left]
    · obtain rfl : i = s.size := by omega
      rw [cutN, dif_neg hlt, List.drop_of_length_le (by rw [data_len]; omega), lex]
      rfl
theorem cutR_lex (s : ByteArray) (h : s.size ≤ 20000) : cutR s = outcome [] (lex s.data.toList 0) := by
  rw [cutR, if_neg (by omega), cut_lex s _ _ _ (by omega) (by omega), List.drop_zero]
end Go.Proofs.YtjlcbhlpibgplaaDoor.P
namespace Go.Proofs.YtjlcbhlpibgplaaDoor.P
open Go.RowKit
set_option linter.unusedVariables false
set_option linter.unusedSimpArgs false
def pair2 (c d : UInt8) : Bool := !(c == 32) && !(d == 32) && Lib.contains pairsT.data.toList [32, c, d, 32]
/-- How long the sign is that a list begins with. -/
def sg : List UInt8 → Nat
  | [] => 0
  | [c] => if hasB singleT c = true then 1 else 0
  | c :: d :: _ => if pair2 c d = true then 2 else if hasB singleT c = true then 1 else 0
theorem getD_bs (l : List UInt8) (i : Nat) : (bs l).data.getD i 0 = l.getD i 0 := by simp [bs, List.getD_eq_getElem?_getD, Array.getD_eq_getD_getElem?]
theorem sg_bs : ∀ l : List UInt8, l ≠ [] → signN (bs l) = sg l
  | [], h => absurd rfl h
  | [c], _ => by
    have hp : pairB (bs [c]) = false := by simp [pairB, bs_size]
    rw [signN, hp, getD_bs, sg]
    rfl
  | c :: d :: r, _ => by
    have hp : pairB (bs (c :: d :: r)) = pair2 c d := by
      have e : (spaced ((bs (c :: d :: r)).extract 0 2)).data.toList = [32, c, d, 32] := by
        rw [spaced_list, extract_bs, list_bs, list_bs]; rfl
      rw [pairB, pair2, e, getD_bs, getD_bs, bs_size]
      have : decide (1 < (c :: d :: r).length) = true := by simp
      rw [this]
      rfl
    rw [signN, hp, getD_bs, sg]
    rfl
theorem lex_nil (at_ : Nat) : lex [] at_ = .inr [⟨5, 0, at_, ⟨#[]⟩⟩] := by rw [lex]
theorem lex_blank {c : UInt8} (r : List UInt8) (at_ : Nat) (h : hasB blanksT c = true) : lex (c :: r) at_ = lex r (at_ + 1) := by rw [lex, if_pos h]
theorem lex_note (r : List UInt8) (at_ : Nat) : lex (35 :: r) at_ = lex (r.dropWhile (fun c => c != 10)) (at_ + 1 + (r.takeWhile (fun c => c != 10)).length) := by
  rw [lex, if_neg (by decide), if_pos rfl]
theorem lex_word {c : UInt8} (r : List UInt8) (at_ : Nat) (h : hasB partsT c = true) : lex (c :: r) at_ =
    if wordK (bs (c :: r.takeWhile (hasB partsT))) = 0 then .inl at_
    else (lex (r.dropWhile (hasB partsT)) (at_ + 1 + (r.takeWhile (hasB partsT)).length)).map id (⟨wordK (bs (c :: r.takeWhile (hasB partsT))), wordV (bs (c :: r.takeWhile (hasB partsT))), at_, bs (c :: r.takeWhile (hasB partsT))⟩ :: ·) := by
  obtain ⟨h1, h2⟩ := part_not h
  rw [lex, if_neg (by simp [h1]), if_neg h2, if_pos h]
theorem lex_sign {c : UInt8} (r : List UInt8) (at_ : Nat) (h1 : hasB blanksT c = false) (h2 : c ≠ 35) (h3 : hasB partsT c = false) : lex (c :: r) at_ =
    if sg (c :: r) = 0 then .inl at_
    else (lex (r.drop (sg (c :: r) - 1)) (at_ + sg (c :: r))).map id (⟨3, 0, at_, bs ((c :: r).take (sg (c :: r)))⟩ :: ·) := by
  rw [lex, if_neg (by simp [h1]), if_neg h2, if_neg (by simp [h3]), sg_bs _ (by simp)]
/-- The four ways on. -/
theorem lex_ways (c : UInt8) : hasB blanksT c = true ∨ c = 35 ∨ hasB partsT c = true ∨ (hasB blanksT c = false ∧ c ≠ 35 ∧ hasB partsT c = false) := by
  cases h1 : hasB blanksT c <;> cases h3 : hasB partsT c <;> by_cases h2 : c = 35 <;> simp_all
theorem sg_le : ∀ l : List UInt8, sg l ≤ l.length
  | [] => Nat.le_refl _
  | [c] => by rw [sg]; split <;> simp
  | c :: d :: r => by rw [sg]; split; simp; split <;> simp
theorem sg_two (l : List UInt8) : sg l ≤ 2 := by
  match l with
  | [] => decide
  | [c] => rw [sg]; split <;> decide
  | c :: d :: r => rw [sg]; split; decide; split <;> decide
theorem while_sep (p : UInt8 → Bool) (d : UInt8) (hp : p d = false) (b : List UInt8) : ∀ a : List UInt8, (a ++ d :: b).takeWhile p = a.takeWhile p
  | [] => by rw [List.nil_append, List.takeWhile_cons, if_neg (by simp [hp])]; rfl
  | c :: a => by
    by_cases h : p c = true
    · rw [List.cons_append, List.takeWhile_cons, if_pos h, while_sep p d hp b a, List.takeWhile_cons, if_pos h]
    · rw [List.cons_append, List.takeWhile_cons, if_neg h, List.takeWhile_cons, if_neg h]
theorem dropw_sep (p : UInt8 → Bool) (d : UInt8) (hp : p d = false) (b : List UInt8) : ∀ a : List UInt8, (a ++ d :: b).dropWhile p = a.dropWhile p ++ d :: b
  | [] => by rw [List.nil_append, List.dropWhile_cons, if_neg (by simp [hp])]; rfl
  | c :: a => by
    by_cases h : p c = true
    · rw [List.cons_append, List.dropWhile_cons, if_pos h, dropw_sep p d hp b a, List.dropWhile_cons, if_pos h]
    · rw [List.cons_append, List.dropWhile_cons, if_neg h, List.dropWhile_cons, if_neg h]; rfl
theorem pair_10 (c : UInt8) : pair2 c 10 = false := by
  cases h : pair2 c 10 with
  | false => rfl
  | true =>
    simp only [pair2, Bool.and_eq_true] at h
    have h3 : (10 : UInt8) ∈ pairsT.data.toList := contains_mem h.2 10 (by simp)
    exact absurd h3 (by decide)
theorem pair_32 (c : UInt8) : pair2 c 32 = false := by simp [pair2]
theorem sg_sep (d : UInt8) (hd : d = 10 ∨ d = 32) (b : List UInt8) : ∀ a : List UInt8, a ≠ [] → sg (a ++ d :: b) = sg a
  | [], h => absurd rfl h
  | [c], _ => by
    have : pair2 c d = false := by rcases hd with rfl | rfl; exact pair_10 c; exact pair_32 c
    rw [List.cons_append, List.nil_append, sg, sg, if_neg (by rw [this]; decide)]
  | c :: e :: r, _ => by rw [List.cons_append, List.cons_append, sg, sg]
theorem lex_ne : ∀ (n : Nat) (l : List UInt8) (at_ : Nat) (ts : List S30), l.length ≤ n → lex l at_ = .inr ts → ts ≠ []
  | n, [], at_, ts, hn, h => by
    rw [lex_nil] at h
    injection h with h; rw [← h]; simp
  | 0, c :: r, at_, ts, hn, h => by simp at hn
  | n + 1, c :: r, at_, ts, hn, h => by
    simp only [List.length_cons] at hn
    rcases lex_ways c with h1 | rfl | h3 | ⟨h1, h2, h3⟩
    · rw [lex_blank _ _ h1] at h; exact lex_ne n _ _ _ (by omega) h
    · rw [lex_note] at h
      exact lex_ne n _ _ _ (by have := (List.dropWhile_sublist (fun c : UInt8 => c != 10) (l := r)).length_le; omega) h
    · rw [lex_word _ _ h3] at h
      split at h
      · cases h
      · cases hx : lex (r.dropWhile (hasB partsT)) (at_ + 1 + (r.takeWhile (hasB partsT)).length) with
        | inl k => rw [hx] at h; cases h
        | inr us => rw [hx] at h; injection h with h; rw [← h]; simp
    · rw [lex_sign _ _ h1 h2 h3] at h
      split at h
      · cases h
      · cases hx : lex (r.drop (sg (c :: r) - 1)) (at_ + sg (c :: r)) with
        | inl k => rw [hx] at h; cases h
        | inr us => rw [hx] at h; injection h with h; rw [← h]; simp
/-- What two parts are cut to, out of the first's tokens and the second's. -/
def then_ (x : Nat ⊕ List S30) (y : Nat ⊕ List S30) : Nat ⊕ List S30 := match x with
  | .inl k => .inl k
  | .inr ts => y.map id (ts.dropLast ++ ·)
theorem then_cons {x y : Nat ⊕ List S30} (t : S30) (hx : ∀ ts, x = .inr ts → ts ≠ []) : then_ (x.map id (t :: ·)) y = (then_ x y).map id (t :: ·) := by
  cases x with
  | inl k => rfl
  | inr ts =>
    have := hx ts rfl
    cases y with
    | inl k => rfl
    | inr us =>
      simp only [then_, Sum.map_inr]
      rw [List.dropLast_cons_of_ne_nil this]
      rfl
/-- Two texts with a line feed (or a blank, if the first bears no comment) between. -/
theorem lex_sep (d : UInt8) (b : List UInt8) : ∀ (n : Nat) (a : List UInt8) (at_ : Nat), a.length ≤ n → (d = 10 ∨ (d = 32 ∧ (35 : UInt8) ∉ a)) → lex (a ++ d :: b) at_ = then_ (lex a at_) (lex b (at_ + a.length + 1))
  | n, [], at_, hn, hd => by
    have h : hasB blanksT d = true := by rcases hd with rfl | ⟨rfl, _⟩ <;> decide
    rw [List.nil_append, lex_blank _ _ h, lex_nil]
    show _ = Sum.map id _ _
    cases lex b (at_ + 1) <;> rfl
  | 0, c :: a, at_, hn, hd => by simp at hn
  | n + 1, c :: a, at_, hn, hd => by
    simp only [List.length_cons] at hn
    have hd2 : d = 10 ∨ d = 32 := by rcases hd with h | h; exact .inl h; exact .inr h.1
    have hsub : ∀ a' : List UInt8, a'.Sublist a → d = 10 ∨ (d = 32 ∧ (35 : UInt8) ∉ a') := fun a' ha => hd.imp id fun h => ⟨h.1, fun hm => h.2 (List.mem_cons_of_mem _ (ha.subset hm))⟩
    rcases lex_ways c with h1 | rfl | h3 | ⟨h1, h2, h3⟩
    · rw [List.cons_append, lex_blank _ _ h1, lex_blank _ _ h1, lex_sep d b n a _ (by omega) (hsub _ (List.Sublist.refl _)), List.length_cons]
      congr 2; omega
    · have hd10 : d = 10 := by rcases hd with h | ⟨_, h⟩; exact h; exact absurd (List.mem_cons_self ..) h
      subst hd10
      have hl := congrArg List.length (List.takeWhile_append_dropWhile (p := fun c : UInt8 => c != 10) (l := a))
      rw [List.length_append] at hl
      rw [List.cons_append, lex_note, lex_note, while_sep _ 10 rfl, dropw_sep _ 10 rfl, lex_sep 10 b n _ _ (by omega) (.inl rfl), List.length_cons]
      congr 2; omega
    · have hpd : hasB partsT d = false := by rcases hd2 with rfl | rfl <;> kernel_rfl
      have hl := congrArg List.length (List.takeWhile_append_dropWhile (p := hasB partsT) (l := a))
      rw [List.length_append] at hl
      rw [List.cons_append, lex_word _ _ h3, lex_word _ _ h3, while_sep _ d hpd, dropw_sep _ d hpd]
      split
      · rfl
      · rw [lex_sep d b n _ _ (by omega) (hsub _ (List.dropWhile_sublist _)), then_cons _ (fun ts => lex_ne _ _ _ _ (Nat.le_refl _)), List.length_cons]
        congr 3; omega
    · have hs : sg (c :: (a ++ d :: b)) = sg (c :: a) := sg_sep d hd2 b (c :: a) (by simp)
      have hle := sg_le (c :: a)
      simp only [List.length_cons] at hle
      rw [List.cons_append, lex_sign _ _ h1 h2 h3, lex_sign _ _ h1 h2 h3, hs]
      split
      · rfl
      · rename_i h0
        have e1 : (a ++ d :: b).drop (sg (c :: a) - 1) = a.drop (sg (c :: a) - 1) ++ d :: b := List.drop_append_of_le_length (by omega)
        have e2 : (c :: (a ++ d :: b)).take (sg (c :: a)) = (c :: a).take (sg (c :: a)) := by
          rw [← List.cons_append, List.take_append_of_le_length (by simp; omega)]
        rw [e1, e2, lex_sep d b n _ _ (by simp; omega) (hsub _ (List.drop_sublist _ _)), then_cons _ (fun ts => lex_ne _ _ _ _ (Nat.le_refl _)), List.length_cons, List.length_drop]
        congr 3; omega
/-- A text further on. -/
def shiftT (d : Nat) (t : S30) : S30 := ⟨t.f0, t.f1, t.f2 + d, t.f3⟩
theorem lex_shift (d : Nat) : ∀ (n : Nat) (l : List UInt8) (at_ : Nat), l.length ≤ n → lex l (at_ + d) = (lex l at_).map (· + d) (List.map (shiftT d))
  | n, [], at_, hn => by rw [lex_nil, lex_nil]; simp [shiftT]
  | 0, c :: r, at_, hn => by simp at hn
  | n + 1, c :: r, at_, hn => by
    simp only [List.length_cons] at hn
    rcases lex_ways c with h1 | rfl | h3 | ⟨h1, h2, h3⟩
    · rw [lex_blank _ _ h1, lex_blank _ _ h1, show at_ + d + 1 = at_ + 1 + d by omega]
      exact lex_shift d n _ _ (by omega)
    · have := (List.dropWhile_sublist (fun c : UInt8 => c != 10) (l := r)).length_le
      rw [lex_note, lex_note, ← lex_shift d n _ _ (by omega)]
      congr 1; omega
    · have := (List.dropWhile_sublist (hasB partsT) (l := r)).length_le
      rw [lex_word _ _ h3, lex_word _ _ h3]
      split
      · rfl
      · rw [show at_ + d + 1 + (r.takeWhile (hasB partsT)).length = at_ + 1 + (r.takeWhile (hasB partsT)).length + d by omega, lex_shift d n _ _ (by omega), Sum.map_map, Sum.map_map]
        congr 1
    · rw [lex_sign _ _ h1 h2 h3, lex_sign _ _ h1 h2 h3]
      split
      · rfl
      · rw [show at_ + d + sg (c :: r) = at_ + sg (c :: r) + d by omega, lex_shift d n _ _ (by simp; omega), Sum.map_map, Sum.map_map]
        congr 1
end Go.Proofs.YtjlcbhlpibgplaaDoor.P
namespace Go.Proofs.YtjlcbhlpibgplaaDoor.P
open Go.RowKit Go.Proofs.YtjlcbhlpibgplaaDoorW.PrintWords
set_option linter.unusedVariables false
set_option linter.unusedSimpArgs false
/-- A token but for where it begins. -/
def core (t : S30) : Int × Int × List UInt8 := (t.f0, t.f1, t.f3.toList)
theorem rd_at (xs : List S30) (i : Nat) (h : i < xs.length) : rd_T30 xs (i : Int) = xs[i] := by
  simp [rd_T30, List.getD_eq_getElem?_getD, h]
theorem like_loop (a b : List S30) (h : a.map core = b.map core) (hm : a.length ≤ 1000000) : ∀ (n i : Nat), a.length ≤ n + i → i ≤ a.length → runnellaw3_like.l0 (n + 1) a b (i : Int) = some true
  | 0, i, hn, hi => by
    rw [runnellaw3_like.l0, if_neg (by omega)]
  | n + 1, i, hn, hi => by
    have hl : a.length = b.length := by simpa using congrArg List.length h
    rw [runnellaw3_like.l0]
    by_cases hlt : i < a.length
    · have hc : core a[i] = core (b[i]'(by omega)) := by
        have h2 : (a.map core)[i]'(by simpa using hlt) = (b.map core)[i]'(by simp; omega) := by simp [h]
        simpa using h2
      simp only [core, Prod.mk.injEq] at hc
      rw [if_pos (by omega), if_pos (by omega), if_pos (by omega), rd_at a i hlt, rd_at b i (by omega), if_pos hc.1, if_pos hc.2.1, if_pos hc.2.2]
      have hw : wrap64 ((i : Int) + 1) = ((i + 1 : Nat) : Int) := by unfold wrap64; omega
      rw [hw]
      exact like_loop a b h hm n (i + 1) (by omega) (by omega)
    · rw [if_neg (by omega)]
theorem like_ok (a b : List S30) (h : a.map core = b.map core) (hm : a.length ≤ 1000000) : runnellaw3_like.f (a.length + 1) a b = some true := by
  have hl : a.length = b.length := by simpa using congrArg List.length h
  rw [runnellaw3_like.f, if_pos (by omega)]
  exact like_loop a b h hm a.length 0 (by omega) (by omega)
theorem core_shift (d : Nat) (l : List S30) : (l.map (shiftT d)).map core = l.map core := by
  rw [List.map_map]; rfl
theorem lex_len : ∀ (n : Nat) (l : List UInt8) (at_ : Nat) (ts : List S30), l.length ≤ n → lex l at_ = .inr ts → ts.length ≤ l.length + 1
  | n, [], at_, ts, hn, h => by
    rw [lex_nil] at h
    injection h with h; rw [← h]; simp
  | 0, c :: r, at_, ts, hn, h => by simp at hn
  | n + 1, c :: r, at_, ts, hn, h => by
    simp only [List.length_cons] at hn ⊢
    rcases lex_ways c with h1 | rfl | h3 | ⟨h1, h2, h3⟩
    · rw [lex_blank _ _ h1] at h; have := lex_len n _ _ _ (by omega) h; omega
    · rw [lex_note] at h
      have hd := (List.dropWhile_sublist (fun c : UInt8 => c != 10) (l := r)).length_le
      have := lex_len n _ _ _ (by omega) h; omega
    · rw [lex_word _ _ h3] at h
      have hd := (List.dropWhile_sublist (hasB partsT) (l := r)).length_le
      split at h
      · cases h
      · cases hx : lex (r.dropWhile (hasB partsT)) (at_ + 1 + (r.takeWhile (hasB partsT)).length) with
        | inl k => rw [hx] at h; cases h
        | inr us =>
          rw [hx] at h; injection h with h; rw [← h]
          have := lex_len n _ _ _ (by omega) hx
          simp; omega
    · rw [lex_sign _ _ h1 h2 h3] at h
      split at h
      · cases h
      · cases hx : lex (r.drop (sg (c :: r) - 1)) (at_ + sg (c :: r)) with
        | inl k => rw [hx] at h; cases h
        | inr us =>
          rw [hx] at h; injection h with h; rw [← h]
          have := lex_len n _ _ _ (by simp; omega) hx
          simp at this ⊢; omega
theorem map_inl {x : Nat ⊕ List S30} {f : List S30 → List S30} {k : Nat} (h : x.map id f = .inl k) : x = .inl k := by
  cases x with
  | inl j => exact h
  | inr us => cases h
theorem lex_inl : ∀ (n : Nat) (l : List UInt8) (at_ k : Nat), l.length ≤ n → lex l at_ = .inl k → at_ ≤ k ∧ k < at_ + l.length
  | n, [], at_, k, hn, h => by rw [lex_nil] at h; cases h
  | 0, c :: r, at_, k, hn, h => by simp at hn
  | n + 1, c :: r, at_, k, hn, h => by
    simp only [List.length_cons] at hn ⊢
    rcases lex_ways c with h1 | rfl | h3 | ⟨h1, h2, h3⟩
    · rw [lex_blank _ _ h1] at h; have := lex_inl n _ _ _ (by omega) h; omega
    · rw [lex_note] at h
      have hl := congrArg List.length (List.takeWhile_append_dropWhile (p := fun c : UInt8 => c != 10) (l := r))
      rw [List.length_append] at hl
      have := lex_inl n _ _ _ (by omega) h; omega
    · rw [lex_word _ _ h3] at h
      have hl := congrArg List.length (List.takeWhile_append_dropWhile (p := hasB partsT) (l := r))
      rw [List.length_append] at hl
      split at h
      · injection h with h; omega
      · have := lex_inl n _ _ _ (by omega) (map_inl h); omega
    · rw [lex_sign _ _ h1 h2 h3] at h
      have := sg_le (c :: r)
      simp only [List.length_cons] at this
      split at h
      · injection h with h; omega
      · have := lex_inl n _ _ _ (by simp; omega) (map_inl h)
        simp only [List.length_drop] at this
        omega
/-- The whole of two texts with a line feed between. -/
def both (s t : ByteArray) : ByteArray := s ++ ⟨#[10]⟩ ++ t
theorem both_list (s t : ByteArray) : (both s t).data.toList = s.data.toList ++ 10 :: t.data.toList := by
  simp [both, ByteArray.data_append]
theorem both_size (s t : ByteArray) : (both s t).size = s.size + 1 + t.size := by
  rw [← data_len, both_list, List.length_append, List.length_cons, data_len, data_len]; omega
theorem rows_cases (s t : ByteArray) (hs : s.size ≤ 1000) (ht : t.size ≤ 1000) :
    (∃ (n : Nat) (lb : List S30) (m f : Int), cutR s = ([], (n : Int), 2) ∧ cutR t = (lb, m, f) ∧ cutR (both s t) = ([], (n : Int), 2)) ∨
    (∃ (a : List S30) (m : Nat), m ≤ t.size ∧ cutR s = (a, 0, 0) ∧ cutR t = ([], (m : Int), 2) ∧ cutR (both s t) = ([], (s.size : Int) + 1 + m, 2)) ∨
    (∃ a b c : List S30, cutR s = (a, 0, 0) ∧ cutR t = (b, 0, 0) ∧ cutR (both s t) = (c, 0, 0) ∧ 1 ≤ a.length ∧ a.length ≤ 1001 ∧ b.length ≤ 1001 ∧ c.length ≤ 3000 ∧ c.map core = (a.take (a.length - 1) ++ b).map core) := by
  rw [cutR_lex s (by omega), cutR_lex t (by omega), cutR_lex (both s t) (by rw [both_size]; omega), both_list, lex_sep 10 _ _ _ _ (Nat.le_refl _) (.inl rfl)]
  have hsh := lex_shift (s.size + 1) _ t.data.toList 0 (Nat.le_refl _)
  rw [data_len, show 0 + s.size + 1 = 0 + (s.size + 1) by omega, hsh]
  cases hx : lex s.data.toList 0 with
  | inl n =>
    rcases hy : outcome [] (lex t.data.toList 0) with ⟨lb, m, f⟩
    exact .inl ⟨n, lb, m, f, rfl, rfl, rfl⟩
  | inr a =>
    cases hy : lex t.data.toList 0 with
    | inl m =>
      refine .inr (.inl ⟨a, m, ?_, rfl, rfl, ?_⟩)
      · have := lex_inl _ _ _ _ (Nat.le_refl _) hy; rw [data_len] at this; omega
      · simp only [outcome, then_, Sum.map_inl]
        simp; omega
    | inr b =>
      have ha := lex_len _ _ _ _ (Nat.le_refl _) hx
      have hb := lex_len _ _ _ _ (Nat.le_refl _) hy
      have hn := lex_ne _ _ _ _ (Nat.le_refl _) hx
      rw [data_len] at ha hb
      refine .inr (.inr ⟨a, b, a.dropLast ++ b.map (shiftT (s.size + 1)), rfl, rfl, rfl, List.length_pos_iff.2 hn, by omega, by omega, by simp; omega, ?_⟩)
      rw [List.map_append, core_shift, List.map_append, List.dropLast_eq_take]
end Go.Proofs.YtjlcbhlpibgplaaDoor.P
