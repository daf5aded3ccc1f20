/- Cut, over lists. -/
import Derived.Test.YtjlcbhlpibgplaaDoorTokH
namespace Go.Proofs.YtjlcbhlpibgplaaDoor.P
open Go.RowKit
set_option linter.unusedVariables false
set_option linter.unusedSimpArgs false
abbrev bs (l : List UInt8) : ByteArray := ⟨l.toArray⟩
/-- Tokens of a list of bytes, which stands at a place; left: the place of what is none. -/
def lex (l : List UInt8) (at_ : Nat) : Nat ⊕ List S30 :=
  match l with
  | [] => .inr [⟨5, 0, at_, ⟨#[]⟩⟩]
  | c :: r =>
    if hasB blanksT c = true then lex r (at_ + 1)
    else if c = 35 then lex (r.dropWhile (fun c => c != 10)) (at_ + 1 + (r.takeWhile (fun c => c != 10)).length)
    else if hasB partsT c = true then
      if wordK (bs (c :: r.takeWhile (hasB partsT))) = 0 then .inl at_
      else (lex (r.dropWhile (hasB partsT)) (at_ + 1 + (r.takeWhile (hasB partsT)).length)).map id (⟨wordK (bs (c :: r.takeWhile (hasB partsT))), wordV (bs (c :: r.takeWhile (hasB partsT))), at_, bs (c :: r.takeWhile (hasB partsT))⟩ :: ·)
    else if signN (bs (c :: r)) = 0 then .inl at_
    else (lex (r.drop (signN (bs (c :: r)) - 1)) (at_ + signN (bs (c :: r)))).map id (⟨3, 0, at_, bs ((c :: r).take (signN (bs (c :: r))))⟩ :: ·)
termination_by l.length
decreasing_by
  · simp
  · have := (List.dropWhile_sublist (fun c : UInt8 => c != 10) (l := r)).length_le; simp; omega
  · have := (List.dropWhile_sublist (hasB partsT) (l := r)).length_le; simp; omega
  · simp; omega
/-- What is cut, out of tokens or a place. -/
def outcome (l : List S30) (x : Nat ⊕ List S30) : List S30 × Int × Int := match x with
  | .inl k => ([], (k : Int), 2)
  | .inr ts => (l ++ ts, 0, 0)
theorem outcome_cons (l : List S30) (t : S30) (x : Nat ⊕ List S30) : outcome l (x.map id (t :: ·)) = outcome (l ++ [t]) x := by
  cases x with
  | inl k => rfl
  | inr ts => simp [outcome]
theorem bs_list (s : ByteArray) : bs s.data.toList = s := by cases s with | mk a => simp [bs]
theorem list_bs (l : List UInt8) : (bs l).data.toList = l := by simp [bs]
theorem bs_size (l : List UInt8) : (bs l).size = l.length := by show l.toArray.size = l.length; simp
theorem drop_while (p : UInt8 → Bool) : ∀ l : List UInt8, l.drop (l.takeWhile p).length = l.dropWhile p
  | [] => rfl
  | c :: l => by
    by_cases h : p c = true
    · rw [List.takeWhile_cons, if_pos h, List.dropWhile_cons, if_pos h, List.length_cons, List.drop_succ_cons, drop_while p l]
    · rw [List.takeWhile_cons, if_neg h, List.dropWhile_cons, if_neg h]; rfl
theorem take_while (p : UInt8 → Bool) : ∀ l : List UInt8, l.take (l.takeWhile p).length = l.takeWhile p
  | [] => rfl
  | c :: l => by
    by_cases h : p c = true
    · rw [List.takeWhile_cons, if_pos h, List.length_cons, List.take_succ_cons, take_while p l]
    · rw [List.takeWhile_cons, if_neg h]; rfl
theorem drop_run (p : UInt8 → Bool) (s : ByteArray) (i : Nat) : s.data.toList.drop (runTo p s i) = (s.data.toList.drop i).dropWhile p := by
  rw [runTo, ← List.drop_drop, drop_while]
theorem extract_bs (s : ByteArray) (i j : Nat) : s.extract i j = bs ((s.data.toList.drop i).take (j - i)) := by
  cases s with | mk a =>
  apply ByteArray.ext
  apply Array.toList_inj.1
  simp [bs, List.drop_take]
theorem extract_run (p : UInt8 → Bool) (s : ByteArray) (i : Nat) : s.extract i (runTo p s i) = bs ((s.data.toList.drop i).takeWhile p) := by
  rw [extract_bs, runTo, Nat.add_sub_cancel_left, take_while]
theorem lex_blanks : ∀ (l : List UInt8) (i : Nat), lex l i = lex (l.dropWhile (hasB blanksT)) (i + (l.takeWhile (hasB blanksT)).length)
  | [], i => by simp
  | c :: l, i => by
    by_cases h : hasB blanksT c = true
    · rw [lex, if_pos h, lex_blanks l (i + 1), List.takeWhile_cons, if_pos h, List.dropWhile_cons, if_pos h, List.length_cons]
      congr 1
      omega
    · rw [List.takeWhile_cons, if_neg h, List.dropWhile_cons, if_neg h]; rfl
theorem run_cons (p : UInt8 → Bool) (s : ByteArray) (i : Nat) (h : i < s.size) : s.data.toList.drop i = s[i] :: s.data.toList.drop (i + 1) := drop_at s i h
theorem run_gt (p : UInt8 → Bool) (s : ByteArray) (i : Nat) (h : i < s.size) : i < runTo p s i ↔ p s[i] = true := by
  by_cases hp : p s[i] = true
  · have := runTo_ge p s (i + 1); rw [runTo_yes p s i h hp]; simp [hp]; omega
  · rw [runTo_no p s i h (by simpa using hp)]; simp [hp]
theorem cut_lex (s : ByteArray) : ∀ (n i : Nat) (l : List S30), s.size < n + i → i ≤ s.size → cutN s n i l = outcome l (lex (s.data.toList.drop i) i)
  | 0, i, l, hn, hi => by omega
  | n + 1, i, l, hn, hi => by
    by_cases hlt : i < s.size
    · rw [cutN, dif_pos hlt]
      by_cases hb : i < runTo (hasB blanksT) s i
      · rw [if_pos hb, cut_lex s n _ l (by omega) (runTo_le _ _ _ hi), drop_run, lex_blanks (s.data.toList.drop i) i]
        rfl
      · have hb' : ¬ hasB blanksT s[i] = true := fun h => hb ((run_gt _ _ _ hlt).2 h)
        rw [if_neg hb]
        by_cases h35 : s[i] = 35
        · rw [if_pos h35, drop_at s i hlt, lex, if_neg hb', if_pos h35]
          have hr : runTo (fun c => c != 10) s i = runTo (fun c => c != 10) s (i + 1) := runTo_yes _ s i hlt (by rw [h35]; rfl)
          have hg := runTo_ge (fun c => c != 10) s (i + 1)
          rw [hr, cut_lex s n _ l (by omega) (runTo_le _ _ _ (by omega)), drop_run]
          rfl
        · rw [if_neg h35]
          by_cases hp : i < runTo (hasB partsT) s i
          · have hp' : hasB partsT s[i] = true := (run_gt _ _ _ hlt).1 hp
            have hx : s.extract i (runTo (hasB partsT) s i) = bs (s[i] :: (s.data.toList.drop (i + 1)).takeWhile (hasB partsT)) := by
              rw [extract_run, drop_at s i hlt, List.takeWhile_cons, if_pos hp']
            rw [if_pos hp, hx, drop_at s i hlt, lex, if_neg hb', if_neg h35, if_pos hp']
            by_cases hk : wordK (bs (s[i] :: (s.data.toList.drop (i + 1)).takeWhile (hasB partsT))) = 0
            · rw [if_pos hk, if_pos hk]; rfl
            · rw [if_neg hk, if_neg hk, outcome_cons, runTo_yes _ s i hlt hp']
              have hg := runTo_ge (hasB partsT) s (i + 1)
              rw [cut_lex s n _ _ (by omega) (runTo_le _ _ _ (by omega)), drop_run]
              rfl
          · have hp' : ¬ hasB partsT s[i] = true := fun h => hp ((run_gt _ _ _ hlt).2 h)
            have hx : s.extract i s.size = bs (s[i] :: s.data.toList.drop (i + 1)) := by
              rw [extract_bs, ← drop_at s i hlt, List.take_of_length_le (by rw [List.length_drop, data_len]; omega)]
            rw [if_neg hp, hx, drop_at s i hlt, lex, if_neg hb', if_neg h35, if_neg hp']
            by_cases hk : signN (bs (s[i] :: s.data.toList.drop (i + 1))) = 0
            · rw [if_pos hk, if_pos hk]; rfl
            · have hle := sign_le (bs (s[i] :: s.data.toList.drop (i + 1))) (by rw [bs_size]; simp)
              rw [bs_size, List.length_cons, List.length_drop, data_len] at hle
              rw [if_neg hk, if_neg hk, outcome_cons, cut_lex s n _ _ (by omega) (by omega), List.drop_drop, extract_bs, drop_at s i hlt]
              rw [show i + 1 + (signN (bs (s[i] :: s.data.toList.drop (i + 1))) - 1) = i + signN (bs (s[i] :: s.data.toList.drop (i + 1))) by omega, Nat.add_sub_cancel_left]
    · obtain rfl : i = s.size := by omega
      rw [cutN, dif_neg hlt, List.drop_of_length_le (by rw [data_len]; omega), lex]
      rfl
theorem cutR_lex (s : ByteArray) (h : s.size ≤ 20000) : cutR s = outcome [] (lex s.data.toList 0) := by
  rw [cutR, if_neg (by omega), cut_lex s _ _ _ (by omega) (by omega), List.drop_zero]
end Go.Proofs.YtjlcbhlpibgplaaDoor.P
