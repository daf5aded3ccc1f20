/- Where tokens stand, plainly. -/
import Derived.Test.YtjlcbhlpibgplaaDoorTokR
namespace Go.Proofs.YtjlcbhlpibgplaaDoor.P
open Go.RowKit Go.Proofs.YtjlcbhlpibgplaaDoorW.PrintWords
set_option linter.unusedVariables false
set_option linter.unusedSimpArgs false
/-- Tokens stand one behind the other from a place on, and between them is nothing that makes a token. -/
def Chain (s : ByteArray) (at_ : Nat) : List S30 → Prop
  | [] => at_ = s.size
  | t :: r => ∃ p : Nat, t.f2 = p ∧ at_ ≤ p ∧ p + t.f3.size ≤ s.size ∧ s.extract p (p + t.f3.size) = t.f3 ∧ (t.f0 = 5 ↔ r = []) ∧ (t.f3.size = 0 ↔ r = []) ∧ (∃ g, cutR (s.extract at_ p) = ([g], 0, 0)) ∧ Chain s (p + t.f3.size) r
/-- A row of bytes that makes no token, and is no comment under way. -/
def CG (g : List UInt8) : Prop := ∀ (l : List UInt8) (at_ : Nat), lex (g ++ l) at_ = lex l (at_ + g.length)
theorem cg_nil : CG [] := fun l at_ => rfl
theorem cg_blank {g : List UInt8} (h : CG g) {c : UInt8} (hc : hasB blanksT c = true) : CG (g ++ [c]) := fun l at_ => by
  rw [List.append_assoc, h, List.singleton_append, lex_blank _ _ hc, List.length_append, List.length_singleton]
  congr 1
theorem while_not {x : List UInt8} (h : x.all (fun c => c != 10) = true) : x.takeWhile (fun c => c != 10) = x := run_all _ _ h
theorem dropw_not : ∀ {x : List UInt8} (h : x.all (fun c => c != 10) = true), x.dropWhile (fun c => c != 10) = []
  | [], _ => rfl
  | c :: x, h => by
    simp only [List.all_cons, Bool.and_eq_true] at h
    rw [List.dropWhile_cons, if_pos h.1, dropw_not h.2]
theorem cg_note {g x : List UInt8} (h : CG g) (hx : x.all (fun c => c != 10) = true) : CG (g ++ (35 :: x ++ [10])) := fun l at_ => by
  have e : 35 :: x ++ [10] ++ l = 35 :: (x ++ 10 :: l) := by simp
  rw [List.append_assoc, h, e, lex_note, while_sep _ 10 rfl, dropw_sep _ 10 rfl, while_not hx, dropw_not hx, List.nil_append, lex_blank _ _ (by decide)]
  congr 1
  simp; omega
theorem takew_all (p : UInt8 → Bool) : ∀ l : List UInt8, (l.takeWhile p).all p = true
  | [] => rfl
  | c :: l => by
    by_cases h : p c = true
    · rw [List.takeWhile_cons, if_pos h, List.all_cons, h, takew_all p l]; rfl
    · rw [List.takeWhile_cons, if_neg h]; rfl
theorem dropw_head : ∀ l : List UInt8, l.dropWhile (fun c => c != 10) = [] ∨ ∃ r, l.dropWhile (fun c => c != 10) = 10 :: r
  | [] => .inl rfl
  | c :: l => by
    by_cases h : c = 10
    · subst h; exact .inr ⟨l, rfl⟩
    · rw [List.dropWhile_cons, if_pos (by simpa using h)]; exact dropw_head l
theorem wordK_ne (s : ByteArray) : wordK s ≠ 5 := by unfold wordK; split; decide; split; decide; split <;> decide
theorem ex_mid (s : ByteArray) (a m b : List UInt8) (h : s.data.toList = a ++ m ++ b) : s.extract a.length (a.length + m.length) = bs m := by
  rw [extract_bs, h, Nat.add_sub_cancel_left, List.append_assoc, List.drop_append_of_le_length (Nat.le_refl _), List.drop_length, List.nil_append, List.take_append_of_le_length (Nat.le_refl _), List.take_length]
theorem size_of {s : ByteArray} {a : List UInt8} (h : s.data.toList = a) : s.size = a.length := by rw [← data_len, h]
theorem map_inr {x : Nat ⊕ List S30} {t : S30} {ts : List S30} (h : x.map id (t :: ·) = .inr ts) : ∃ us, x = .inr us ∧ ts = t :: us := by
  cases x with
  | inl j => cases h
  | inr us => injection h with h; exact ⟨us, rfl, h.symm⟩
theorem gap_cut {g : List UInt8} {k : Nat} (hl : g.length ≤ 20000) (hg : lex g 0 = .inr [⟨5, 0, k, ⟨#[]⟩⟩]) : ∃ x, cutR (bs g) = ([x], 0, 0) := by
  rw [cutR_lex _ (by rw [bs_size]; exact hl), list_bs, hg]
  exact ⟨_, rfl⟩
theorem cg_end {g : List UInt8} (h : CG g) : lex g 0 = .inr [⟨5, 0, (g.length : Nat), ⟨#[]⟩⟩] := by
  have := h [] 0
  rw [List.append_nil, lex_nil, Nat.zero_add] at this
  exact this
/-- A token behind a gap, and what follows it. -/
theorem chain_cons {s : ByteArray} {pre g x l : List UInt8} {us : List S30} {t : S30} (hs : s.size ≤ 20000) (h : s.data.toList = pre ++ g ++ x ++ l) (hg : CG g) (hx : x ≠ []) (h0 : t.f0 ≠ 5) (h2 : t.f2 = ((pre.length + g.length : Nat) : Int)) (h3 : t.f3 = bs x) (hu : us ≠ [])
    (hc : Chain s (pre.length + g.length + x.length) us) : Chain s pre.length (t :: us) := by
  have hz := size_of h
  simp only [List.length_append] at hz
  have hxl : 0 < x.length := List.length_pos_iff.2 hx
  refine ⟨pre.length + g.length, h2, by omega, ?_, ?_, ⟨fun e => absurd e h0, fun e => absurd e hu⟩, ⟨fun e => ?_, fun e => absurd e hu⟩, ?_, ?_⟩
  · rw [h3, bs_size]; omega
  · rw [h3, bs_size]
    have := ex_mid s (pre ++ g) x l h
    rw [List.length_append] at this
    exact this
  · rw [h3, bs_size] at e; omega
  · have := ex_mid s pre g (x ++ l) (by rw [h, List.append_assoc (pre ++ g)])
    rw [this]
    exact gap_cut (by omega) (cg_end hg)
  · rw [h3, bs_size]; exact hc
theorem chain_of (s : ByteArray) (hs : s.size ≤ 20000) : ∀ (n : Nat) (pre g l : List UInt8) (ts : List S30), l.length ≤ n → s.data.toList = pre ++ g ++ l → CG g → lex l (pre.length + g.length) = .inr ts → Chain s pre.length ts
  | n, pre, g, [], ts, hn, h, hg, hl => by
    have hz := size_of h
    simp only [List.length_append, List.length_nil] at hz
    rw [lex_nil] at hl
    injection hl with hl
    subst hl
    refine ⟨pre.length + g.length, rfl, by omega, by show _ + 0 ≤ _; omega, ?_, by simp, by simp; rfl, ?_, ?_⟩
    · show s.extract _ (_ + 0) = _
      rw [extract_bs]; simp
    · rw [ex_mid s pre g [] h]
      exact gap_cut (by omega) (cg_end hg)
    · show _ + 0 = _; omega
  | 0, pre, g, c :: r, ts, hn, h, hg, hl => by simp at hn
  | n + 1, pre, g, c :: r, ts, hn, h, hg, hl => by
    simp only [List.length_cons] at hn
    have hz := size_of h
    simp only [List.length_append, List.length_cons] at hz
    rcases lex_ways c with h1 | rfl | h3 | ⟨h1, h2, h3⟩
    · rw [lex_blank _ _ h1] at hl
      exact chain_of s hs n pre (g ++ [c]) r ts (by omega) (by rw [h]; simp) (cg_blank hg h1) (by rw [List.length_append, List.length_singleton]; exact hl)
    · rw [lex_note] at hl
      have hr := List.takeWhile_append_dropWhile (p := fun c : UInt8 => c != 10) (l := r)
      have hlen := congrArg List.length hr
      rw [List.length_append] at hlen
      have hall := takew_all (fun c => c != 10) r
      rcases dropw_head r with hd | ⟨r', hd⟩
      · rw [hd, lex_nil] at hl
        injection hl with hl
        rw [hd, List.append_nil] at hr
        rw [hr] at hl hall
        subst hl
        refine ⟨pre.length + g.length + 1 + r.length, rfl, by omega, by show _ + 0 ≤ _; omega, ?_, by simp, by simp; rfl, ?_, ?_⟩
        · show s.extract _ (_ + 0) = _
          rw [extract_bs]; simp
        · have he := ex_mid s pre (g ++ 35 :: r) [] (by rw [h]; simp)
          rw [List.length_append, List.length_cons] at he
          rw [show pre.length + g.length + 1 + r.length = pre.length + (g.length + (r.length + 1)) by omega, he]
          refine gap_cut (k := 0 + g.length + 1 + r.length) (by simp; omega) ?_
          rw [hg, lex_note, while_not hall, dropw_not hall, lex_nil]
        · show _ + 0 = _; omega
      · rw [hd, lex_blank _ _ (by decide)] at hl
        rw [hd] at hr hlen
        simp only [List.length_cons] at hlen
        generalize r.takeWhile (fun c => c != 10) = x at *
        refine chain_of s hs n pre (g ++ (35 :: x ++ [10])) r' ts (by omega) (by rw [h, ← hr]; simp) (cg_note hg hall) ?_
        rw [← hl]
        congr 1
        simp; omega
    · rw [lex_word _ _ h3] at hl
      have hr := List.takeWhile_append_dropWhile (p := hasB partsT) (l := r)
      have hlen := congrArg List.length hr
      rw [List.length_append] at hlen
      split at hl
      · cases hl
      · obtain ⟨us, hu, rfl⟩ := map_inr hl
        refine chain_cons (x := c :: r.takeWhile (hasB partsT)) (l := r.dropWhile (hasB partsT)) hs (by rw [h]; simp [hr]) hg (by simp) (wordK_ne _) rfl rfl (lex_ne _ _ _ _ (Nat.le_refl _) hu) ?_
        have := chain_of s hs n (pre ++ g ++ (c :: r.takeWhile (hasB partsT))) [] (r.dropWhile (hasB partsT)) us (by omega) (by rw [h]; simp [hr]) cg_nil (by
          rw [← hu]
          congr 1
          simp; omega)
        rw [List.length_append, List.length_append] at this
        exact this
    · rw [lex_sign _ _ h1 h2 h3] at hl
      have hle := sg_le (c :: r)
      simp only [List.length_cons] at hle
      split at hl
      · cases hl
      · rename_i h0
        obtain ⟨us, hu, rfl⟩ := map_inr hl
        have hd : (c :: r).drop (sg (c :: r)) = r.drop (sg (c :: r) - 1) := by
          obtain ⟨m, hm⟩ : ∃ m, sg (c :: r) = m + 1 := ⟨sg (c :: r) - 1, by omega⟩
          rw [hm]; rfl
        have hr := List.take_append_drop (sg (c :: r)) (c :: r)
        rw [hd] at hr
        have hxl : ((c :: r).take (sg (c :: r))).length = sg (c :: r) := by rw [List.length_take, List.length_cons]; omega
        refine chain_cons (x := (c :: r).take (sg (c :: r))) (l := r.drop (sg (c :: r) - 1)) hs (by rw [h, List.append_assoc, List.append_assoc, hr]; simp) hg (fun e => by rw [e] at hxl; simp at hxl; omega) (by show (3 : Int) ≠ 5; decide) rfl rfl (lex_ne _ _ _ _ (Nat.le_refl _) hu) ?_
        have := chain_of s hs n (pre ++ g ++ (c :: r).take (sg (c :: r))) [] (r.drop (sg (c :: r) - 1)) us (by simp; omega) (by rw [h, List.append_nil, List.append_assoc, List.append_assoc, hr]; simp) cg_nil (by
          rw [← hu]
          congr 1
          rw [List.length_append, List.length_append, hxl]; rfl)
        rw [List.length_append, List.length_append] at this
        exact this
theorem places_cases (s : ByteArray) (hs : s.size ≤ 2000) : (∃ (n : Nat), cutR s = ([], (n : Int), 2)) ∨ (∃ ts, cutR s = (ts, 0, 0) ∧ ts.length ≤ 2001 ∧ Chain s 0 ts) := by
  rw [cutR_lex s (by omega)]
  cases hx : lex s.data.toList 0 with
  | inl n => exact .inl ⟨n, rfl⟩
  | inr ts =>
    have := lex_len _ _ _ _ (Nat.le_refl _) hx
    rw [data_len] at this
    exact .inr ⟨ts, rfl, by omega, chain_of s (by omega) _ [] [] s.data.toList ts (Nat.le_refl _) rfl cg_nil hx⟩
end Go.Proofs.YtjlcbhlpibgplaaDoor.P
