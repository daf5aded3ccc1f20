/- The document's words that are kept, and names: they are the program's. Plainly. -/
import Derived.Test.YtjlcbhlpibgplaaDoorTokR
import Derived.Test.YtjlcbhlpibgplaaDoorPf20
import Derived.Test.YtjlcbhlpibgplaaDoorPf21
namespace Go.Proofs.YtjlcbhlpibgplaaDoor.P
open Go.RowKit Go.Proofs.YtjlcbhlpibgplaaDoorW.PrintWords
set_option linter.unusedVariables false
set_option linter.unusedSimpArgs false
def keptWords : List ByteArray := [(⟨#[118, 97, 114]⟩ : ByteArray), (⟨#[112, 114, 111, 99]⟩ : ByteArray), (⟨#[105, 110, 116]⟩ : ByteArray), (⟨#[98, 111, 111, 108]⟩ : ByteArray), (⟨#[97, 114, 114]⟩ : ByteArray), (⟨#[102, 117, 110]⟩ : ByteArray), (⟨#[105, 110]⟩ : ByteArray), (⟨#[111, 117, 116]⟩ : ByteArray), (⟨#[105, 102]⟩ : ByteArray), (⟨#[101, 108, 115, 101]⟩ : ByteArray), (⟨#[119, 104, 105, 108, 101]⟩ : ByteArray), (⟨#[99, 97, 108, 108]⟩ : ByteArray), (⟨#[114, 101, 116, 117, 114, 110]⟩ : ByteArray), (⟨#[116, 104, 114, 111, 119]⟩ : ByteArray), (⟨#[116, 114, 121]⟩ : ByteArray), (⟨#[99, 97, 116, 99, 104]⟩ : ByteArray), (⟨#[110, 101, 119]⟩ : ByteArray), (⟨#[108, 101, 110]⟩ : ByteArray), (⟨#[116, 114, 117, 101]⟩ : ByteArray), (⟨#[102, 97, 108, 115, 101]⟩ : ByteArray)]
def wordsL : List (List UInt8) := keptWords.map (·.data.toList)
/-- The kept text's pieces. -/
def pieces (l : List UInt8) : List (List UInt8) := (List.range l.length).map fun i => ((l.drop i).drop 1).takeWhile (fun c => c != 32)
set_option maxRecDepth 100000 in
theorem pieces_ok : ((List.range keptText.data.toList.length).all fun i => !((keptText.data.toList.drop i).head? == some 32) || (((keptText.data.toList.drop i).drop 1).takeWhile (fun c => c != 32)).isEmpty || wordsL.contains (((keptText.data.toList.drop i).drop 1).takeWhile (fun c => c != 32))) = true := by kernel_rfl
set_option maxRecDepth 100000 in
theorem words_in : (wordsL.all fun x => Lib.contains keptText.data.toList (32 :: (x ++ [32])) && !x.contains 32 && !x.isEmpty) = true := by kernel_rfl
theorem take_not (x y : List UInt8) (h : (32 : UInt8) ∉ x) : (x ++ 32 :: y).takeWhile (fun c => c != 32) = x := by
  rw [while_sep _ 32 rfl]
  exact run_all _ _ (List.all_eq_true.2 fun c hc => by
    have : c ≠ 32 := fun e => h (e ▸ hc)
    simpa using this)
theorem kept_words (s : ByteArray) : keptB s = wordsL.contains s.data.toList := by
  rw [Bool.eq_iff_iff]
  constructor
  · intro h
    simp only [keptB, Bool.and_eq_true, decide_eq_true_eq, Bool.not_eq_true'] at h
    obtain ⟨⟨h0, h1⟩, h2⟩ := h
    have hn : (32 : UInt8) ∉ s.data.toList := by
      intro hm
      have : hasB s 32 = true := by simpa [hasB] using hm
      rw [h1] at this; cases this
    have hne : s.data.toList ≠ [] := by
      intro e
      have := data_len s
      rw [e] at this
      exact h0 (by simpa using this.symm)
    rcases Lib.index_spec keptText.data.toList (spaced s).data.toList with ⟨h3, _⟩ | ⟨i, h3, h4, h5, _⟩
    · simp [Lib.contains, h3] at h2
    · have h6 : (spaced s).data.toList <+: keptText.data.toList.drop i := by simpa [Lib.occAt] using h5
      rw [spaced_list] at h6
      obtain ⟨y, hy⟩ := h6
      have hd : (keptText.data.toList.drop i).drop 1 = s.data.toList ++ 32 :: y := by rw [← hy]; simp
      have hh : (keptText.data.toList.drop i).head? = some 32 := by rw [← hy]; rfl
      have hi : i < keptText.data.toList.length := by
        rcases Nat.lt_or_ge i keptText.data.toList.length with h | h
        · exact h
        · rw [List.drop_of_length_le h] at hh; cases hh
      have := List.all_eq_true.1 pieces_ok i (List.mem_range.2 hi)
      rw [hd, take_not _ _ hn, hh] at this
      cases hsl : s.data.toList with
      | nil => exact absurd hsl hne
      | cons a b =>
        rw [hsl] at this
        simpa using this
  · intro h
    have hm : s.data.toList ∈ wordsL := by simpa using h
    have := List.all_eq_true.1 words_in _ hm
    simp only [Bool.and_eq_true] at this
    obtain ⟨⟨h1, h2⟩, h3⟩ := this
    have hne : s.size ≠ 0 := by
      intro e
      have := data_len s
      rw [e] at this
      have := List.eq_nil_of_length_eq_zero this
      rw [this] at h3; cases h3
    simp only [keptB, Bool.and_eq_true, decide_eq_true_eq]
    refine ⟨⟨hne, ?_⟩, by rw [spaced_list]; exact h1⟩
    rw [hasB]; exact h2
theorem rdw_at (l : List ByteArray) (i : Nat) (h : i < l.length) : rdOf ByteArray.empty l (i : Int) = l[i] := by
  simp [rdOf, List.getD_eq_getElem?_getD, h]
theorem kept_loop (s : ByteArray) (l : List ByteArray) (hm : l.length ≤ 1000) : ∀ (n i : Nat), l.length ≤ n + i → i ≤ l.length → runnelref3_Kept.l0 (n + 1) s l (i : Int) = some (((l.drop i).map (·.data.toList)).contains s.data.toList)
  | 0, i, hn, hi => by
    rw [runnelref3_Kept.l0, if_neg (by omega), List.drop_of_length_le (by omega)]; rfl
  | n + 1, i, hn, hi => by
    rw [runnelref3_Kept.l0]
    by_cases hlt : i < l.length
    · rw [if_pos (by omega), if_pos (by omega), rdw_at l i hlt, List.drop_eq_getElem_cons hlt, List.map_cons, toList_data, toList_data]
      by_cases he : l[i].data.toList = s.data.toList
      · rw [if_pos he, he]; simp
      · have hw : wrap64 ((i : Int) + 1) = ((i + 1 : Nat) : Int) := by unfold wrap64; omega
        rw [if_neg he, hw, kept_loop s l hm n (i + 1) (by omega) (by omega)]
        have hb : (s.data.toList == l[i].data.toList) = false := beq_eq_false_iff_ne.2 (fun e => he e.symm)
        rw [List.contains_cons, hb, Bool.false_or]
    · rw [if_neg (by omega), List.drop_of_length_le (by omega)]; rfl
theorem ref_kept (s : ByteArray) (n : Nat) (hn : 21 ≤ n) : runnelref3_Kept.f n s = some (keptB s) := by
  obtain ⟨m, rfl⟩ : ∃ m, n = m + 1 := ⟨n - 1, by omega⟩
  rw [kept_words, runnelref3_Kept.f]
  exact kept_loop s keptWords (by decide) m 0 (by show 20 ≤ m + 0; omega) (Nat.zero_le _)
def allBytes (p : UInt8 → Bool) : Bool := (List.range 256).all fun i => p (UInt8.ofNat i)
theorem all_bytes {p : UInt8 → Bool} (h : allBytes p = true) (c : UInt8) : p c = true := by
  have := List.all_eq_true.1 h c.toNat (List.mem_range.2 (UInt8.toNat_lt c))
  simpa using this
set_option maxRecDepth 100000 in
theorem part_all : allBytes (fun c => runnelref3_part.f (c.toNat : Int) == some (hasB partsT c)) = true := by kernel_rfl
set_option maxRecDepth 100000 in
theorem digit_all : allBytes (fun c => runnelref3_digit.f (c.toNat : Int) == some (hasB digitsT c)) = true := by kernel_rfl
theorem ref_part (c : UInt8) : runnelref3_part.f (c.toNat : Int) = some (hasB partsT c) := by simpa using all_bytes part_all c
theorem ref_digit (c : UInt8) : runnelref3_digit.f (c.toNat : Int) = some (hasB digitsT c) := by simpa using all_bytes digit_all c
theorem bt_nat (s : ByteArray) (i : Nat) (h : i < s.size) : bt s (i : Int) = (s[i].toNat : Int) := by
  unfold bt
  rw [dif_pos (by simpa using h)]
  simp
/-- What stands behind the loop of the document's Ident. -/
def identEnd (s : ByteArray) : Bool := decide (1 ≤ s.size) && decide (s.size ≤ 20) && !hasB digitsT (s.data.getD 0 0) && !keptB s
theorem ident_end (s : ByteArray) (k : Nat) (hk : 21 ≤ k) : ((runnelref3_Kept.f k s).bind fun t147 => (if (s.size : Int) ≥ 1 then (if (s.size : Int) ≤ 20 then (if 0 < (s.size : Int) then ((runnelref3_digit.f (bt s 0)).bind fun t148 => (if t148 = true then (some false) else (some (!t147)))) else (none)) else (some false)) else (some false))) = some (identEnd s) := by
  rw [ref_kept s k hk]
  show (if (s.size : Int) ≥ 1 then _ else _) = _
  by_cases h1 : 1 ≤ s.size
  · rw [if_pos (by omega)]
    by_cases h2 : s.size ≤ 20
    · have h0 : bt s 0 = (s[0].toNat : Int) := bt_nat s 0 (by omega)
      rw [if_pos (by omega), if_pos (by omega), h0, ref_digit, first_at s (by omega)]
      show (if hasB digitsT (s.data.getD 0 0) = true then _ else _) = _
      unfold identEnd
      rw [decide_eq_true h1, decide_eq_true h2]
      cases hasB digitsT (s.data.getD 0 0) <;> simp
    · rw [if_neg (by omega)]
      simp [identEnd, h2]
  · rw [if_neg (by omega)]
    simp [identEnd, h1]
theorem ident_loop (s : ByteArray) (hm : s.size ≤ 1000000) : ∀ (n i : Nat), 25 + s.size ≤ n + i → i ≤ s.size → runnelref3_Ident.l0 (n + 1) s (i : Int) = some ((s.data.toList.drop i).all (hasB partsT) && identEnd s)
  | 0, i, hn, hi => by omega
  | n + 1, i, hn, hi => by
    rw [runnelref3_Ident.l0]
    by_cases hlt : i < s.size
    · have hw : wrap64 ((i : Int) + 1) = ((i + 1 : Nat) : Int) := by unfold wrap64; omega
      rw [if_pos (by omega), if_pos (by omega), bt_nat s i hlt, ref_part, drop_at s i hlt, List.all_cons]
      show (if hasB partsT s[i] = true then _ else _) = _
      by_cases hp : hasB partsT s[i] = true
      · rw [if_pos hp, hw, ident_loop s hm n (i + 1) (by omega) (by omega), hp]; rfl
      · rw [if_neg hp]; simp [hp]
    · rw [if_neg (by omega), ident_end s _ (by omega), List.drop_of_length_le (by rw [data_len]; omega)]; rfl
theorem ref_ident (s : ByteArray) (hm : s.size ≤ 1000000) (n : Nat) (hn : 26 + s.size ≤ n) : runnelref3_Ident.f n s = some (identB s) := by
  obtain ⟨m, rfl⟩ : ∃ m, n = m + 1 := ⟨n - 1, by omega⟩
  have := ident_loop s hm m 0 (by omega) (Nat.zero_le _)
  rw [runnelref3_Ident.f]
  refine this.trans ?_
  rw [List.drop_zero]
  unfold identB identEnd onlyB
  have e : decide (1 ≤ s.size) = decide (s.size ≠ 0) := decide_eq_decide.2 (by omega)
  rw [e]
  cases decide (s.size ≠ 0) <;> cases decide (s.size ≤ 20) <;> cases s.data.toList.all (hasB partsT) <;> rfl
end Go.Proofs.YtjlcbhlpibgplaaDoor.P
