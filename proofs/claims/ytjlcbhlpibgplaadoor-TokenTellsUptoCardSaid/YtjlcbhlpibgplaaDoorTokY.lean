/- Cut of two texts with a byte between them, over lists. -/
import Derived.Test.YtjlcbhlpibgplaaDoorTokX
namespace Go.Proofs.YtjlcbhlpibgplaaDoor.P
open Go.RowKit
set_option linter.unusedVariables false
set_option linter.unusedSimpArgs false
def pair2 (c d : UInt8) : Bool := !(c == 32) && !(d == 32) && Lib.contains pairsT.data.toList [32, c, d, 32]
/-- How long the sign is that a list begins with. -/
def sg : List UInt8 → Nat
  | [] => 0
  | [c] => if hasB singleT c = true then 1 else 0
  | c :: d :: _ => if pair2 c d = true then 2 else if hasB singleT c = true then 1 else 0
theorem getD_bs (l : List UInt8) (i : Nat) : (bs l).data.getD i 0 = l.getD i 0 := by simp [bs, List.getD_eq_getElem?_getD, Array.getD_eq_getD_getElem?]
theorem sg_bs : ∀ l : List UInt8, l ≠ [] → signN (bs l) = sg l
  | [], h => absurd rfl h
  | [c], _ => by
    have hp : pairB (bs [c]) = false := by simp [pairB, bs_size]
    rw [signN, hp, getD_bs, sg]
    rfl
  | c :: d :: r, _ => by
    have hp : pairB (bs (c :: d :: r)) = pair2 c d := by
      have e : (spaced ((bs (c :: d :: r)).extract 0 2)).data.toList = [32, c, d, 32] := by
        rw [spaced_list, extract_bs, list_bs, list_bs]; rfl
      rw [pairB, pair2, e, getD_bs, getD_bs, bs_size]
      have : decide (1 < (c :: d :: r).length) = true := by simp
      rw [this]
      rfl
    rw [signN, hp, getD_bs, sg]
    rfl
theorem lex_nil (at_ : Nat) : lex [] at_ = .inr [⟨5, 0, at_, ⟨#[]⟩⟩] := by rw [lex]
theorem lex_blank {c : UInt8} (r : List UInt8) (at_ : Nat) (h : hasB blanksT c = true) : lex (c :: r) at_ = lex r (at_ + 1) := by rw [lex, if_pos h]
theorem lex_note (r : List UInt8) (at_ : Nat) : lex (35 :: r) at_ = lex (r.dropWhile (fun c => c != 10)) (at_ + 1 + (r.takeWhile (fun c => c != 10)).length) := by
  rw [lex, if_neg (by decide), if_pos rfl]
theorem lex_word {c : UInt8} (r : List UInt8) (at_ : Nat) (h : hasB partsT c = true) : lex (c :: r) at_ =
    if wordK (bs (c :: r.takeWhile (hasB partsT))) = 0 then .inl at_
    else (lex (r.dropWhile (hasB partsT)) (at_ + 1 + (r.takeWhile (hasB partsT)).length)).map id (⟨wordK (bs (c :: r.takeWhile (hasB partsT))), wordV (bs (c :: r.takeWhile (hasB partsT))), at_, bs (c :: r.takeWhile (hasB partsT))⟩ :: ·) := by
  obtain ⟨h1, h2⟩ := part_not h
  rw [lex, if_neg (by simp [h1]), if_neg h2, if_pos h]
theorem lex_sign {c : UInt8} (r : List UInt8) (at_ : Nat) (h1 : hasB blanksT c = false) (h2 : c ≠ 35) (h3 : hasB partsT c = false) : lex (c :: r) at_ =
    if sg (c :: r) = 0 then .inl at_
    else (lex (r.drop (sg (c :: r) - 1)) (at_ + sg (c :: r))).map id (⟨3, 0, at_, bs ((c :: r).take (sg (c :: r)))⟩ :: ·) := by
  rw [lex, if_neg (by simp [h1]), if_neg h2, if_neg (by simp [h3]), sg_bs _ (by simp)]
/-- The four ways on. -/
theorem lex_ways (c : UInt8) : hasB blanksT c = true ∨ c = 35 ∨ hasB partsT c = true ∨ (hasB blanksT c = false ∧ c ≠ 35 ∧ hasB partsT c = false) := by
  cases h1 : hasB blanksT c <;> cases h3 : hasB partsT c <;> by_cases h2 : c = 35 <;> simp_all
theorem sg_le : ∀ l : List UInt8, sg l ≤ l.length
  | [] => Nat.le_refl _
  | [c] => by rw [sg]; split <;> simp
  | c :: d :: r => by rw [sg]; split; simp; split <;> simp
theorem sg_two (l : List UInt8) : sg l ≤ 2 := by
  match l with
  | [] => decide
  | [c] => rw [sg]; split <;> decide
  | c :: d :: r => rw [sg]; split; decide; split <;> decide
theorem while_sep (p : UInt8 → Bool) (d : UInt8) (hp : p d = false) (b : List UInt8) : ∀ a : List UInt8, (a ++ d :: b).takeWhile p = a.takeWhile p
  | [] => by rw [List.nil_append, List.takeWhile_cons, if_neg (by simp [hp])]; rfl
  | c :: a => by
    by_cases h : p c = true
    · rw [List.cons_append, List.takeWhile_cons, if_pos h, while_sep p d hp b a, List.takeWhile_cons, if_pos h]
    · rw [List.cons_append, List.takeWhile_cons, if_neg h, List.takeWhile_cons, if_neg h]
theorem dropw_sep (p : UInt8 → Bool) (d : UInt8) (hp : p d = false) (b : List UInt8) : ∀ a : List UInt8, (a ++ d :: b).dropWhile p = a.dropWhile p ++ d :: b
  | [] => by rw [List.nil_append, List.dropWhile_cons, if_neg (by simp [hp])]; rfl
  | c :: a => by
    by_cases h : p c = true
    · rw [List.cons_append, List.dropWhile_cons, if_pos h, dropw_sep p d hp b a, List.dropWhile_cons, if_pos h]
    · rw [List.cons_append, List.dropWhile_cons, if_neg h, List.dropWhile_cons, if_neg h]; rfl
theorem pair_10 (c : UInt8) : pair2 c 10 = false := by
  cases h : pair2 c 10 with
  | false => rfl
  | true =>
    simp only [pair2, Bool.and_eq_true] at h
    have h3 : (10 : UInt8) ∈ pairsT.data.toList := contains_mem h.2 10 (by simp)
    exact absurd h3 (by decide)
theorem pair_32 (c : UInt8) : pair2 c 32 = false := by simp [pair2]
theorem sg_sep (d : UInt8) (hd : d = 10 ∨ d = 32) (b : List UInt8) : ∀ a : List UInt8, a ≠ [] → sg (a ++ d :: b) = sg a
  | [], h => absurd rfl h
  | [c], _ => by
    have : pair2 c d = false := by rcases hd with rfl | rfl; exact pair_10 c; exact pair_32 c
    rw [List.cons_append, List.nil_append, sg, sg, if_neg (by rw [this]; decide)]
  | c :: e :: r, _ => by rw [List.cons_append, List.cons_append, sg, sg]
theorem lex_ne : ∀ (n : Nat) (l : List UInt8) (at_ : Nat) (ts : List S30), l.length ≤ n → lex l at_ = .inr ts → ts ≠ []
  | n, [], at_, ts, hn, h => by
    rw [lex_nil] at h
    injection h with h; rw [← h]; simp
  | 0, c :: r, at_, ts, hn, h => by simp at hn
  | n + 1, c :: r, at_, ts, hn, h => by
    simp only [List.length_cons] at hn
    rcases lex_ways c with h1 | rfl | h3 | ⟨h1, h2, h3⟩
    · rw [lex_blank _ _ h1] at h; exact lex_ne n _ _ _ (by omega) h
    · rw [lex_note] at h
      exact lex_ne n _ _ _ (by have := (List.dropWhile_sublist (fun c : UInt8 => c != 10) (l := r)).length_le; omega) h
    · rw [lex_word _ _ h3] at h
      split at h
      · cases h
      · cases hx : lex (r.dropWhile (hasB partsT)) (at_ + 1 + (r.takeWhile (hasB partsT)).length) with
        | inl k => rw [hx] at h; cases h
        | inr us => rw [hx] at h; injection h with h; rw [← h]; simp
    · rw [lex_sign _ _ h1 h2 h3] at h
      split at h
      · cases h
      · cases hx : lex (r.drop (sg (c :: r) - 1)) (at_ + sg (c :: r)) with
        | inl k => rw [hx] at h; cases h
        | inr us => rw [hx] at h; injection h with h; rw [← h]; simp
/-- What two parts are cut to, out of the first's tokens and the second's. -/
def then_ (x : Nat ⊕ List S30) (y : Nat ⊕ List S30) : Nat ⊕ List S30 := match x with
  | .inl k => .inl k
  | .inr ts => y.map id (ts.dropLast ++ ·)
theorem then_cons {x y : Nat ⊕ List S30} (t : S30) (hx : ∀ ts, x = .inr ts → ts ≠ []) : then_ (x.map id (t :: ·)) y = (then_ x y).map id (t :: ·) := by
  cases x with
  | inl k => rfl
  | inr ts =>
    have := hx ts rfl
    cases y with
    | inl k => rfl
    | inr us =>
      simp only [then_, Sum.map_inr]
      rw [List.dropLast_cons_of_ne_nil this]
      rfl
/-- Two texts with a line feed (or a blank, if the first bears no comment) between. -/
theorem lex_sep (d : UInt8) (b : List UInt8) : ∀ (n : Nat) (a : List UInt8) (at_ : Nat), a.length ≤ n → (d = 10 ∨ (d = 32 ∧ (35 : UInt8) ∉ a)) → lex (a ++ d :: b) at_ = then_ (lex a at_) (lex b (at_ + a.length + 1))
  | n, [], at_, hn, hd => by
    have h : hasB blanksT d = true := by rcases hd with rfl | ⟨rfl, _⟩ <;> decide
    rw [List.nil_append, lex_blank _ _ h, lex_nil]
    show _ = Sum.map id _ _
    cases lex b (at_ + 1) <;> rfl
  | 0, c :: a, at_, hn, hd => by simp at hn
  | n + 1, c :: a, at_, hn, hd => by
    simp only [List.length_cons] at hn
    have hd2 : d = 10 ∨ d = 32 := by rcases hd with h | h; exact .inl h; exact .inr h.1
    have hsub : ∀ a' : List UInt8, a'.Sublist a → d = 10 ∨ (d = 32 ∧ (35 : UInt8) ∉ a') := fun a' ha => hd.imp id fun h => ⟨h.1, fun hm => h.2 (List.mem_cons_of_mem _ (ha.subset hm))⟩
    rcases lex_ways c with h1 | rfl | h3 | ⟨h1, h2, h3⟩
    · rw [List.cons_append, lex_blank _ _ h1, lex_blank _ _ h1, lex_sep d b n a _ (by omega) (hsub _ (List.Sublist.refl _)), List.length_cons]
      congr 2; omega
    · have hd10 : d = 10 := by rcases hd with h | ⟨_, h⟩; exact h; exact absurd (List.mem_cons_self ..) h
      subst hd10
      have hl := congrArg List.length (List.takeWhile_append_dropWhile (p := fun c : UInt8 => c != 10) (l := a))
      rw [List.length_append] at hl
      rw [List.cons_append, lex_note, lex_note, while_sep _ 10 rfl, dropw_sep _ 10 rfl, lex_sep 10 b n _ _ (by omega) (.inl rfl), List.length_cons]
      congr 2; omega
    · have hpd : hasB partsT d = false := by rcases hd2 with rfl | rfl <;> kernel_rfl
      have hl := congrArg List.length (List.takeWhile_append_dropWhile (p := hasB partsT) (l := a))
      rw [List.length_append] at hl
      rw [List.cons_append, lex_word _ _ h3, lex_word _ _ h3, while_sep _ d hpd, dropw_sep _ d hpd]
      split
      · rfl
      · rw [lex_sep d b n _ _ (by omega) (hsub _ (List.dropWhile_sublist _)), then_cons _ (fun ts => lex_ne _ _ _ _ (Nat.le_refl _)), List.length_cons]
        congr 3; omega
    · have hs : sg (c :: (a ++ d :: b)) = sg (c :: a) := sg_sep d hd2 b (c :: a) (by simp)
      have hle := sg_le (c :: a)
      simp only [List.length_cons] at hle
      rw [List.cons_append, lex_sign _ _ h1 h2 h3, lex_sign _ _ h1 h2 h3, hs]
      split
      · rfl
      · rename_i h0
        have e1 : (a ++ d :: b).drop (sg (c :: a) - 1) = a.drop (sg (c :: a) - 1) ++ d :: b := List.drop_append_of_le_length (by omega)
        have e2 : (c :: (a ++ d :: b)).take (sg (c :: a)) = (c :: a).take (sg (c :: a)) := by
          rw [← List.cons_append, List.take_append_of_le_length (by simp; omega)]
        rw [e1, e2, lex_sep d b n _ _ (by simp; omega) (hsub _ (List.drop_sublist _ _)), then_cons _ (fun ts => lex_ne _ _ _ _ (Nat.le_refl _)), List.length_cons, List.length_drop]
        congr 3; omega
/-- A text further on. -/
def shiftT (d : Nat) (t : S30) : S30 := ⟨t.f0, t.f1, t.f2 + d, t.f3⟩
theorem lex_shift (d : Nat) : ∀ (n : Nat) (l : List UInt8) (at_ : Nat), l.length ≤ n → lex l (at_ + d) = (lex l at_).map (· + d) (List.map (shiftT d))
  | n, [], at_, hn => by rw [lex_nil, lex_nil]; simp [shiftT]
  | 0, c :: r, at_, hn => by simp at hn
  | n + 1, c :: r, at_, hn => by
    simp only [List.length_cons] at hn
    rcases lex_ways c with h1 | rfl | h3 | ⟨h1, h2, h3⟩
    · rw [lex_blank _ _ h1, lex_blank _ _ h1, show at_ + d + 1 = at_ + 1 + d by omega]
      exact lex_shift d n _ _ (by omega)
    · have := (List.dropWhile_sublist (fun c : UInt8 => c != 10) (l := r)).length_le
      rw [lex_note, lex_note, ← lex_shift d n _ _ (by omega)]
      congr 1; omega
    · have := (List.dropWhile_sublist (hasB partsT) (l := r)).length_le
      rw [lex_word _ _ h3, lex_word _ _ h3]
      split
      · rfl
      · rw [show at_ + d + 1 + (r.takeWhile (hasB partsT)).length = at_ + 1 + (r.takeWhile (hasB partsT)).length + d by omega, lex_shift d n _ _ (by omega), Sum.map_map, Sum.map_map]
        congr 1
    · rw [lex_sign _ _ h1 h2 h3, lex_sign _ _ h1 h2 h3]
      split
      · rfl
      · rw [show at_ + d + sg (c :: r) = at_ + sg (c :: r) + d by omega, lex_shift d n _ _ (by simp; omega), Sum.map_map, Sum.map_map]
        congr 1
end Go.Proofs.YtjlcbhlpibgplaaDoor.P
