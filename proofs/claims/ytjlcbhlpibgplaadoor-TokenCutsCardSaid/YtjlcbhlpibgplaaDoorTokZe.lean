/- Numbers, plainly: the document's and the program's are one. The document's numbers, words and signs: they are the program's. Plainly. The document's Cut is the program's. Plainly. TokenCuts: every text. -/
import Derived.Test.YtjlcbhlpibgplaaDoorTokYa
import Derived.Test.YtjlcbhlpibgplaaDoorTokZa
import Derived.Test.YtjlcbhlpibgplaaDoorPf40
import Derived.Lib.AtoiAllCases
import Derived.Lib.ItoaNum
import Derived.Test.YtjlcbhlpibgplaaDoorTokP
import Derived.Test.YtjlcbhlpibgplaaDoorPf29
import Derived.Test.YtjlcbhlpibgplaaDoorPf30
import Derived.Test.YtjlcbhlpibgplaaDoorPf12
import Derived.Test.YtjlcbhlpibgplaaDoorPf13
import Derived.Test.YtjlcbhlpibgplaaDoorTokG
namespace Go.Proofs.YtjlcbhlpibgplaaDoor.P
open Go.RowKit Go.Proofs.YtjlcbhlpibgplaaDoorW.PrintWords
set_option linter.unusedVariables false
set_option linter.unusedSimpArgs false
def dg1 (c : UInt8) : Bool := decide (48 ≤ c.toNat) && decide (c.toNat ≤ 57)
theorem digit_dg (c : UInt8) : runnelref3_digit.f (c.toNat : Int) = some (dg1 c) := by
  unfold runnelref3_digit.f dg1
  by_cases h : 48 ≤ c.toNat
  · rw [if_pos (by omega)]; simp [h]; omega
  · rw [if_neg (by omega)]; simp [h]
/-- What digits spell, behind what was spelt. -/
def val (a : Nat) (l : List UInt8) : Nat := l.foldl (fun a c => a * 10 + (c.toNat - 48)) a
theorem val_nil (a : Nat) : val a [] = a := rfl
theorem val_cons (a : Nat) (c : UInt8) (l : List UInt8) : val a (c :: l) = val (a * 10 + (c.toNat - 48)) l := by simp only [val, List.foldl_cons]
theorem val_snoc (a : Nat) (l : List UInt8) (c : UInt8) : val a (l ++ [c]) = val a l * 10 + (c.toNat - 48) := by simp [val, List.foldl_append]
theorem dg_range {c : UInt8} (h : dg1 c = true) : 48 ≤ c.toNat ∧ c.toNat ≤ 57 := by
  unfold dg1 at h
  rw [Bool.and_eq_true, decide_eq_true_eq, decide_eq_true_eq] at h
  exact h
theorem val_bounds (l : List UInt8) : ∀ a : Nat, l.all dg1 = true → a * 10 ^ l.length ≤ val a l ∧ val a l < (a + 1) * 10 ^ l.length := by
  induction l with
  | nil => intro a _; simp [val_nil]
  | cons c l ih =>
    intro a h
    rw [List.all_cons, Bool.and_eq_true] at h
    have hc := dg_range h.1
    obtain ⟨i1, i2⟩ := ih (a * 10 + (c.toNat - 48)) h.2
    rw [val_cons, List.length_cons, Nat.pow_succ]
    generalize 10 ^ l.length = p at *
    have e1 : a * (p * 10) = (a * 10) * p := by rw [Nat.mul_comm p 10, Nat.mul_assoc]
    have e2 : (a + 1) * (p * 10) = ((a + 1) * 10) * p := by rw [Nat.mul_comm p 10, Nat.mul_assoc]
    rw [e1, e2]
    constructor
    · exact Nat.le_trans (Nat.mul_le_mul_right _ (by omega)) i1
    · exact Nat.lt_of_lt_of_le i2 (Nat.mul_le_mul_right _ (by omega))
theorem val_less : ∀ (x y : List UInt8) (a : Nat), x.length = y.length → x.all dg1 = true → y.all dg1 = true → Op.bytesLess x y = decide (val a x < val a y)
  | [], [], a, _, _, _ => by simp [Op.bytesLess, val_nil]
  | [], _ :: _, a, h, _, _ => by simp at h
  | _ :: _, [], a, h, _, _ => by simp at h
  | c :: x, d :: y, a, h, hx, hy => by
    replace h : x.length = y.length := by simpa using h
    simp only [List.all_cons, Bool.and_eq_true] at hx hy
    have hc := dg_range hx.1
    have hd := dg_range hy.1
    rw [val_cons, val_cons]
    unfold Op.bytesLess
    by_cases h1 : c < d
    · have hlt : c.toNat < d.toNat := UInt8.lt_iff_toNat_lt.1 h1
      have b1 := (val_bounds x (a * 10 + (c.toNat - 48)) hx.2).2
      have b2 := (val_bounds y (a * 10 + (d.toNat - 48)) hy.2).1
      rw [h] at b1
      have b3 : (a * 10 + (c.toNat - 48) + 1) * 10 ^ y.length ≤ (a * 10 + (d.toNat - 48)) * 10 ^ y.length := Nat.mul_le_mul_right _ (by omega)
      have : val (a * 10 + (c.toNat - 48)) x < val (a * 10 + (d.toNat - 48)) y := by omega
      simp [h1, this]
    · by_cases h2 : c = d
      · subst h2
        rw [val_less x y (a * 10 + (c.toNat - 48)) h hx.2 hy.2]
        simp [h1]
      · have hlt : d.toNat < c.toNat := by
          have h3 : ¬ c.toNat < d.toNat := fun e => h1 (UInt8.lt_iff_toNat_lt.2 e)
          have h4 : c.toNat ≠ d.toNat := fun e => h2 (UInt8.toNat_inj.1 e)
          omega
        have b1 := (val_bounds y (a * 10 + (d.toNat - 48)) hy.2).2
        have b2 := (val_bounds x (a * 10 + (c.toNat - 48)) hx.2).1
        rw [← h] at b1
        have b3 : (a * 10 + (d.toNat - 48) + 1) * 10 ^ x.length ≤ (a * 10 + (c.toNat - 48)) * 10 ^ x.length := Nat.mul_le_mul_right _ (by omega)
        have : ¬ val (a * 10 + (c.toNat - 48)) x < val (a * 10 + (d.toNat - 48)) y := by omega
        simp [h1, h2, this]
/-- Digits as a number is written. -/
def canon (l : List UInt8) : Bool := l.all dg1 && !l.isEmpty && (decide (l.length ≤ 1) || !(l.head? == some 48))
def numD (l : List UInt8) : Bool := canon l && decide (val 0 l ≤ 9223372036854775807)
theorem ofNat_digit (d : Nat) (h : d < 10) : (UInt8.ofNat (48 + d)).toNat = 48 + d := by
  rw [UInt8.toNat_ofNat']
  omega
theorem dec_props : ∀ (n u : Nat), u ≤ n → (Lib.decDigits u).all dg1 = true ∧ Lib.decDigits u ≠ [] ∧ (1 ≤ u → (Lib.decDigits u).head? ≠ some 48) ∧ (u = 0 → (Lib.decDigits u).length ≤ 1) ∧ val 0 (Lib.decDigits u) = u
  | n, u, hn => by
    by_cases h : u < 10
    · have ht := ofNat_digit u h
      rw [Lib.decDigits_one h]
      refine ⟨?_, by simp, fun h1 => ?_, fun _ => by simp, ?_⟩
      · simp only [List.all_cons, List.all_nil, dg1, ht]; simp; omega
      · intro e
        have e2 : UInt8.ofNat (48 + u) = 48 := by simpa using e
        rw [e2] at ht
        have : (48 : UInt8).toNat = 48 := rfl
        omega
      · rw [val_cons, val_nil, ht]; omega
    · obtain ⟨m, rfl⟩ : ∃ m, n = m + 1 := ⟨n - 1, by omega⟩
      obtain ⟨i1, i2, i3, i4, i5⟩ := dec_props m (u / 10) (by omega)
      have ht := ofNat_digit (u % 10) (by omega)
      have e : Lib.decDigits u = Lib.decDigits (u / 10) ++ [UInt8.ofNat (48 + u % 10)] := by rw [Lib.decDigits, dif_neg h]
      rw [e]
      refine ⟨?_, by simp, fun h1 => ?_, fun h0 => by omega, ?_⟩
      · rw [List.all_append, i1]
        simp only [List.all_cons, List.all_nil, dg1, ht]; simp; omega
      · have i4 := i3 (by omega)
        cases hl : Lib.decDigits (u / 10) with
        | nil => exact absurd hl i2
        | cons a r => rw [hl] at i4; exact i4
      · rw [val_snoc, i5, ht]; omega
theorem canon_dec (u : Nat) : canon (Lib.decDigits u) = true := by
  obtain ⟨h1, h2, h3, h4, _⟩ := dec_props u u (Nat.le_refl _)
  unfold canon
  rw [h1]
  have e : (Lib.decDigits u).isEmpty = false := by simpa using h2
  rw [e]
  rcases Nat.eq_zero_or_pos u with h | h
  · simp [h4 h]
  · have := h3 h
    simp [this]
theorem dec_canon : ∀ (n : Nat) (l : List UInt8), l.length ≤ n → canon l = true → Lib.decDigits (val 0 l) = l
  | n, l, hn, h => by
    simp only [canon, Bool.and_eq_true, Bool.or_eq_true, Bool.not_eq_true', decide_eq_true_eq] at h
    obtain ⟨⟨h1, h2⟩, h3⟩ := h
    rcases List.eq_nil_or_concat l with rfl | ⟨l', c, rfl⟩
    · simp at h2
    · rw [List.concat_eq_append] at *
      rw [List.all_append, Bool.and_eq_true] at h1
      have hc := h1.2
      simp only [List.all_cons, List.all_nil, Bool.and_true, dg1, Bool.and_eq_true, decide_eq_true_eq] at hc
      have hcc : UInt8.ofNat (48 + (c.toNat - 48)) = c := by
        rw [show 48 + (c.toNat - 48) = c.toNat by omega]
        exact UInt8.ofNat_toNat
      rw [val_snoc]
      cases l' with
      | nil =>
        rw [val_nil, Nat.zero_mul, Nat.zero_add, Lib.decDigits_one (by omega), hcc]; rfl
      | cons a r =>
        obtain ⟨m, rfl⟩ : ∃ m, n = m + 1 := ⟨n - 1, by simp at hn; omega⟩
        have ha : a ≠ 48 := by
          rcases h3 with h3 | h3
          · simp at h3
          · intro e; subst e; simp at h3
        have hv : 1 ≤ val 0 (a :: r) := by
          have hb := (val_bounds r (0 * 10 + (a.toNat - 48)) (by have := h1.1; simp only [List.all_cons, Bool.and_eq_true] at this; exact this.2)).1
          rw [val_cons]
          have ha2 : 1 ≤ a.toNat - 48 := by
            have := h1.1
            simp only [List.all_cons, Bool.and_eq_true, dg1, decide_eq_true_eq] at this
            have h4 : a.toNat ≠ 48 := fun e => ha (UInt8.toNat_inj.1 e)
            omega
          have hp : 1 ≤ 10 ^ r.length := Nat.one_le_pow _ _ (by decide)
          have := Nat.mul_le_mul (show 1 ≤ 0 * 10 + (a.toNat - 48) by omega) hp
          omega
        have ih := dec_canon m (a :: r) (by simp at hn ⊢; omega) (by
          simp only [canon, Bool.and_eq_true, Bool.or_eq_true, Bool.not_eq_true', decide_eq_true_eq]
          exact ⟨⟨h1.1, rfl⟩, .inr (by simpa using ha)⟩)
        rw [Lib.decDigits, dif_neg (by omega), show (val 0 (a :: r) * 10 + (c.toNat - 48)) / 10 = val 0 (a :: r) by omega, show (val 0 (a :: r) * 10 + (c.toNat - 48)) % 10 = c.toNat - 48 by omega, ih, hcc]
theorem parse_val : ∀ (l : List UInt8) (a : Nat), l.all dg1 = true → val a l < 18446744073709551616 → Lib.parseUint10 a l = .ok (val a l)
  | [], a, _, _ => rfl
  | c :: l, a, h, hv => by
    simp only [List.all_cons, Bool.and_eq_true] at h
    have hc := h.1
    simp only [dg1, Bool.and_eq_true, decide_eq_true_eq] at hc
    rw [val_cons] at hv
    have hb := (val_bounds l (a * 10 + (c.toNat - 48)) h.2).1
    have hp : 1 ≤ 10 ^ l.length := Nat.one_le_pow _ _ (by decide)
    have hm := Nat.mul_le_mul_left (a * 10 + (c.toNat - 48)) hp
    rw [Lib.parseUint10, if_pos hc, if_neg (by omega), if_neg (by omega), parse_val l _ h.2 hv, val_cons]
theorem num_of (s : ByteArray) (hm : (45 : UInt8) ∉ s.data.toList) : numOf s = if numD s.data.toList = true then some (val 0 s.data.toList : Int) else none := by
  by_cases hd : numD s.data.toList = true
  · rw [if_pos hd]
    simp only [numD, Bool.and_eq_true, decide_eq_true_eq] at hd
    obtain ⟨hc, hv⟩ := hd
    have hdec := dec_canon _ _ (Nat.le_refl _) hc
    simp only [canon, Bool.and_eq_true, Bool.not_eq_true'] at hc
    obtain ⟨⟨h1, h2⟩, _⟩ := hc
    have ha : Lib.atoiAll s.data.toList = .ok (val 0 s.data.toList : Int) := by
      cases hl : s.data.toList with
      | nil => rw [hl] at h2; simp at h2
      | cons c r =>
        rw [hl] at h1 hv
        have hc := h1
        simp only [List.all_cons, Bool.and_eq_true, dg1, decide_eq_true_eq] at hc
        rw [Lib.atoiAll_plain c r (by omega) (by omega), Lib.parseMag, if_neg (by simp), parse_val _ _ h1 (by omega)]
        show (if 9223372036854775808 ≤ val 0 (c :: r) then _ else _) = _
        rw [if_neg (by omega)]
    unfold numOf
    rw [ha]
    show (if Lib.itoa (val 0 s.data.toList : Int) = s.data.toList then _ else _) = _
    have hi : Lib.itoa (val 0 s.data.toList : Int) = s.data.toList := by
      unfold Lib.itoa
      rw [if_neg (by omega), Int.toNat_natCast, hdec]
    rw [if_pos hi]
  · rw [if_neg hd]
    unfold numOf
    split
    · rename_i v hv
      split
      · rename_i hi
        exfalso
        apply hd
        have hb := Lib.atoiAll_bounds hv
        have h0 : ¬ v < 0 := by
          intro h
          apply hm
          rw [← hi, Lib.itoa, if_pos h]; simp
        have hdv : Lib.decDigits v.toNat = s.data.toList := by rw [← hi, Lib.itoa, if_neg h0]
        obtain ⟨_, _, _, _, p5⟩ := dec_props v.toNat v.toNat (Nat.le_refl _)
        unfold numD
        rw [← hdv, canon_dec, p5, Bool.true_and, decide_eq_true_eq]
        omega
      · rfl
    · rfl
end Go.Proofs.YtjlcbhlpibgplaaDoor.P
namespace Go.Proofs.YtjlcbhlpibgplaaDoor.P
open Go.RowKit Go.Proofs.YtjlcbhlpibgplaaDoorW.PrintWords
set_option linter.unusedVariables false
set_option linter.unusedSimpArgs false
theorem val_take_le (l : List UInt8) (h : l.all dg1 = true) (i : Nat) : val 0 (l.take i) ≤ val 0 l := by
  have e : val 0 l = val (val 0 (l.take i)) (l.drop i) := by
    conv => lhs; rw [← List.take_append_drop i l]
    simp only [val, List.foldl_append]
  rw [e]
  have hd : (l.drop i).all dg1 = true := List.all_eq_true.2 fun c hc => List.all_eq_true.1 h c (List.mem_of_mem_drop hc)
  have hb := (val_bounds (l.drop i) (val 0 (l.take i)) hd).1
  have hp : 1 ≤ 10 ^ (l.drop i).length := Nat.one_le_pow _ _ (by decide)
  exact Nat.le_trans (Nat.le_mul_of_pos_right _ hp) hb
theorem wrap_id (x : Int) (h1 : -9223372036854775808 ≤ x) (h2 : x ≤ 9223372036854775807) : wrap64 x = x := by unfold wrap64; omega
theorem step_wrap (v c : Nat) (h1 : 48 ≤ c) (h2 : c ≤ 57) (h : v * 10 + (c - 48) ≤ 9223372036854775807) : wrap64 (wrap64 (10 * (v : Int)) + (((c : Int) - 48) % 256)) = ((v * 10 + (c - 48) : Nat) : Int) := by
  have e1 : ((c : Int) - 48) % 256 = (c : Int) - 48 := Int.emod_eq_of_lt (by omega) (by omega)
  have e2 : wrap64 (10 * (v : Int)) = 10 * v := wrap_id _ (by omega) (by omega)
  rw [e1, e2, wrap_id _ (by omega) (by omega)]
  omega
theorem num_l1 (s : ByteArray) (hm : s.size ≤ 1000000) (hd : s.data.toList.all dg1 = true) (hv : val 0 s.data.toList ≤ 9223372036854775807) : ∀ (n i : Nat), s.size ≤ n + i → i ≤ s.size →
    runnelref3_Number.l1 (n + 1) s (val 0 (s.data.toList.take i) : Int) (i : Int) = some ((val 0 s.data.toList : Int), true)
  | 0, i, hn, hi => by
    rw [runnelref3_Number.l1, if_neg (by omega), List.take_of_length_le (by rw [data_len]; omega)]
  | n + 1, i, hn, hi => by
    rw [runnelref3_Number.l1]
    by_cases hlt : i < s.size
    · have hw : wrap64 ((i : Int) + 1) = ((i + 1 : Nat) : Int) := by unfold wrap64; omega
      have hc : dg1 s[i] = true := by
        rw [← data_at s i hlt]
        exact List.all_eq_true.1 hd _ (List.getElem_mem _)
      have hr := dg_range hc
      have hs : val 0 (s.data.toList.take (i + 1)) = val 0 (s.data.toList.take i) * 10 + (s[i].toNat - 48) := by rw [take_at s i hlt, val_snoc]
      have hle := val_take_le s.data.toList hd (i + 1)
      rw [if_pos (by omega), if_pos (by omega), bt_nat s i hlt, hw]
      have hw2 : wrap64 (wrap64 (10 * (val 0 (s.data.toList.take i) : Int)) + (((s[i].toNat : Int) - 48) % 256)) = (val 0 (s.data.toList.take (i + 1)) : Int) := by
        rw [hs] at hle ⊢
        exact step_wrap _ _ hr.1 hr.2 (Nat.le_trans hle hv)
      rw [hw2]
      exact num_l1 s hm hd hv n (i + 1) (by omega) (by omega)
    · rw [if_neg (by omega), List.take_of_length_le (by rw [data_len]; omega)]
theorem num_j1 (s : ByteArray) (hm : s.size ≤ 1000000) (hd : s.data.toList.all dg1 = true) (n : Nat) (hn : s.size + 2 ≤ n) : runnelref3_Number.j1 n s 0 (!numD s.data.toList) = some (if numD s.data.toList = true then ((val 0 s.data.toList : Int), true) else (0, false)) := by
  obtain ⟨m, rfl⟩ : ∃ m, n = m + 2 := ⟨n - 2, by omega⟩
  rw [runnelref3_Number.j1]
  by_cases h : numD s.data.toList = true
  · rw [h, if_neg (by decide), if_pos rfl]
    have hv : val 0 s.data.toList ≤ 9223372036854775807 := by
      simp only [numD, Bool.and_eq_true, decide_eq_true_eq] at h
      exact h.2
    have := num_l1 s hm hd hv m 0 (by omega) (Nat.zero_le _)
    rw [List.take_zero, val_nil] at this
    exact this
  · have h2 : numD s.data.toList = false := by simpa using h
    rw [h2]; rfl
theorem great_val : val 0 [57, 50, 50, 51, 51, 55, 50, 48, 51, 54, 56, 53, 52, 55, 55, 53, 56, 48, 55] = 9223372036854775807 := by decide
theorem great_all : List.all [57, 50, 50, 51, 51, 55, 50, 48, 51, 54, 56, 53, 52, 55, 55, 53, 56, 48, 55] dg1 = true := by decide
theorem num_guard (s : ByteArray) (hd : s.data.toList.all dg1 = true) (k : Nat) :
    (if s.toList = ([] : List UInt8) then (runnelref3_Number.j1 k s 0 true) else (if (s.size : Int) > 1 then (if 0 < (s.size : Int) then (if (bt s 0) = 48 then (runnelref3_Number.j1 k s 0 true) else (if (s.size : Int) > 19 then (runnelref3_Number.j1 k s 0 true) else (if (s.size : Int) = 19 then (runnelref3_Number.j1 k s 0 (Op.bytesLess ([57, 50, 50, 51, 51, 55, 50, 48, 51, 54, 56, 53, 52, 55, 55, 53, 56, 48, 55] : List UInt8) s.toList)) else (runnelref3_Number.j1 k s 0 false)))) else (none)) else (if (s.size : Int) > 19 then (runnelref3_Number.j1 k s 0 true) else (if (s.size : Int) = 19 then (runnelref3_Number.j1 k s 0 (Op.bytesLess ([57, 50, 50, 51, 51, 55, 50, 48, 51, 54, 56, 53, 52, 55, 55, 53, 56, 48, 55] : List UInt8) s.toList)) else (runnelref3_Number.j1 k s 0 false)))))
    = runnelref3_Number.j1 k s 0 (!numD s.data.toList) := by
  rw [toList_data]
  have hlen := data_len s
  cases hl : s.data.toList with
  | nil => rw [if_pos rfl]; rfl
  | cons c r =>
    rw [if_neg (by simp)]
    rw [hl] at hd hlen
    simp only [List.length_cons] at hlen
    have h0 : bt s 0 = (c.toNat : Int) := by
      have hc : s[0]'(by omega) = c := by
        rw [← data_at s 0 (by omega)]
        simp [hl]
      have := bt_nat s 0 (by omega)
      rw [hc] at this
      exact this
    have hall := hd
    rw [List.all_cons, Bool.and_eq_true] at hd
    have hc := dg_range hd.1
    have hb := val_bounds r (0 * 10 + (c.toNat - 48)) hd.2
    rw [← val_cons] at hb
    by_cases h1 : 1 < s.size
    · rw [if_pos (by omega), if_pos (by omega), h0]
      by_cases h48 : c = 48
      · subst h48
        rw [if_pos (show (((48 : UInt8).toNat : Int) = 48) from rfl)]
        have : numD (48 :: r) = false := by
          unfold numD canon
          have : decide ((48 :: r : List UInt8).length ≤ 1) = false := decide_eq_false (by simp only [List.length_cons]; omega)
          rw [this]; simp
        rw [this]; rfl
      · have hn48 : c.toNat ≠ 48 := fun e => h48 (UInt8.toNat_inj.1 e)
        have hcan : canon (c :: r) = true := by
          unfold canon
          rw [hall]
          simp [h48]
        rw [if_neg (by omega)]
        have hn : numD (c :: r) = decide (val 0 (c :: r) ≤ 9223372036854775807) := by rw [numD, hcan, Bool.true_and]
        by_cases h19 : 19 < s.size
        · rw [if_pos (by omega)]
          have hp : 10 ^ 19 ≤ 10 ^ r.length := Nat.pow_le_pow_right (by decide) (by omega)
          have hbig : 10 ^ 19 ≤ val 0 (c :: r) := Nat.le_trans hp (Nat.le_trans (Nat.le_mul_of_pos_left _ (by omega)) hb.1)
          rw [hn, decide_eq_false (by omega)]; rfl
        · rw [if_neg (by omega)]
          by_cases he : s.size = 19
          · rw [if_pos (by omega), val_less _ _ 0 (by simp only [List.length_cons, List.length_nil]; omega) great_all hall, great_val, hn]
            congr 1
            by_cases hx : val 0 (c :: r) ≤ 9223372036854775807
            · rw [decide_eq_true hx, decide_eq_false (by omega)]; rfl
            · rw [decide_eq_false hx, decide_eq_true (by omega)]; rfl
          · rw [if_neg (by omega), hn]
            have hp : 10 ^ (r.length + 1) ≤ 10 ^ 18 := Nat.pow_le_pow_right (by decide) (by omega)
            rw [Nat.pow_succ] at hp
            have : (0 * 10 + (c.toNat - 48) + 1) * 10 ^ r.length ≤ 10 * 10 ^ r.length := Nat.mul_le_mul_right _ (by omega)
            rw [decide_eq_true (by omega)]; rfl
    · have hr0 : r = [] := List.eq_nil_of_length_eq_zero (by omega)
      subst hr0
      have hv : val 0 [c] = c.toNat - 48 := by rw [val_cons, val_nil]; omega
      have hn : numD [c] = true := by
        unfold numD canon
        rw [hall, hv]
        have : decide (c.toNat - 48 ≤ 9223372036854775807) = true := decide_eq_true (by omega)
        rw [this]; simp
      rw [if_neg (by omega), if_neg (by omega), if_neg (by omega), hn]; rfl
theorem num_l0 (s : ByteArray) (hm : s.size ≤ 1000000) : ∀ (n i : Nat), 2 * s.size + 4 ≤ n + i → i ≤ s.size → (s.data.toList.take i).all dg1 = true →
    runnelref3_Number.l0 n s 0 (i : Int) = some (if numD s.data.toList = true then ((val 0 s.data.toList : Int), true) else (0, false))
  | 0, i, hn, hi, ht => by omega
  | n + 1, i, hn, hi, ht => by
    rw [runnelref3_Number.l0]
    by_cases hlt : i < s.size
    · have hw : wrap64 ((i : Int) + 1) = ((i + 1 : Nat) : Int) := by unfold wrap64; omega
      rw [if_pos (by omega), if_pos (by omega), bt_nat s i hlt, digit_dg]
      show (if dg1 s[i] = true then _ else _) = _
      by_cases hc : dg1 s[i] = true
      · rw [if_pos hc, hw]
        exact num_l0 s hm n (i + 1) (by omega) (by omega) (by rw [take_at s i hlt, List.all_append, ht]; simp [hc])
      · rw [if_neg hc]
        have : numD s.data.toList = false := by
          unfold numD canon
          have : s.data.toList.all dg1 = false := by
            rw [Bool.eq_false_iff]
            intro h
            apply hc
            rw [← data_at s i hlt]
            exact List.all_eq_true.1 h _ (List.getElem_mem _)
          rw [this]; rfl
        rw [this]; rfl
    · have hd : s.data.toList.all dg1 = true := by rwa [List.take_of_length_le (by rw [data_len]; omega)] at ht
      rw [if_neg (by omega), num_guard s hd n]
      exact num_j1 s hm hd n (by omega)
theorem ref_num (s : ByteArray) (hm : s.size ≤ 1000000) (n : Nat) (hn : 2 * s.size + 4 ≤ n) : runnelref3_Number.f n s = some (if numD s.data.toList = true then ((val 0 s.data.toList : Int), true) else (0, false)) := by
  rw [runnelref3_Number.f]
  exact num_l0 s hm n 0 (by omega) (Nat.zero_le _) (by simp)
/-- The document's word is the program's, where there is no minus. -/
theorem ref_word (s : ByteArray) (hm : s.size ≤ 1000000) (h45 : (45 : UInt8) ∉ s.data.toList) (at_ : Int) (n : Nat) (hn : 2 * s.size + 26 ≤ n) :
    runnelref3_word.f n s at_ = some (if wordK s = 0 then ((0 : Int), (0 : Int), (0 : Int), (⟨#[]⟩ : ByteArray), false) else (wordK s, wordV s, at_, s, true)) := by
  rw [runnelref3_word.f, ref_num s hm n (by omega), ref_kept s n (by omega), ref_ident s hm n (by omega)]
  show (if keptB s = true then _ else _) = _
  unfold wordK wordV
  cases keptB s with
  | true => rfl
  | false =>
    cases identB s with
    | true => rfl
    | false =>
      rw [num_of s h45]
      by_cases hd : numD s.data.toList = true
      · rw [if_pos hd, if_pos hd]; rfl
      · rw [if_neg hd, if_neg hd]; rfl
/-- The first of some texts that a text begins with; nothing, if there is none. -/
def fm : List (List UInt8) → List UInt8 → List UInt8
  | [], _ => []
  | e :: es, l => if e.length ≤ l.length ∧ l.take e.length = e then e else fm es l
theorem sign_loop (s : ByteArray) (L : List ByteArray) (hm : L.length ≤ 1000) : ∀ (n i : Nat), L.length ≤ n + i → i ≤ L.length → runnelref3_sign.l0 (n + 1) s L (i : Int) = some (bs (fm ((L.drop i).map (·.data.toList)) s.data.toList))
  | 0, i, hn, hi => by
    rw [runnelref3_sign.l0, if_neg (by omega), List.drop_of_length_le (by omega)]; rfl
  | n + 1, i, hn, hi => by
    rw [runnelref3_sign.l0]
    by_cases hlt : i < L.length
    · have hw : wrap64 ((i : Int) + 1) = ((i + 1 : Nat) : Int) := by unfold wrap64; omega
      rw [if_pos (by omega), if_pos (by omega), rdw_at L i hlt, hw, List.drop_eq_getElem_cons hlt, List.map_cons, fm, data_len, data_len]
      have ih := sign_loop s L hm n (i + 1) (by omega) (by omega)
      by_cases h1 : L[i].size ≤ s.size
      · rw [if_pos (by omega), if_pos (by omega), if_pos (by omega), Int.toNat_natCast, toList_data, toList_data, extract_list]
        by_cases h2 : s.data.toList.take L[i].size = L[i].data.toList
        · rw [if_pos h2, if_pos ⟨h1, h2⟩, bs_list]
        · rw [if_neg h2, if_neg (fun h => h2 h.2)]
          exact ih
      · rw [if_neg (by omega), if_neg (fun h => h1 h.1)]
        exact ih
    · rw [if_neg (by omega), List.drop_of_length_le (by omega)]; rfl
def pairsP : List (UInt8 × UInt8) := [(61, 61), (33, 61), (60, 61), (62, 61), (38, 38), (124, 124)]
def signsB : List ByteArray := [(⟨#[61, 61]⟩ : ByteArray), (⟨#[33, 61]⟩ : ByteArray), (⟨#[60, 61]⟩ : ByteArray), (⟨#[62, 61]⟩ : ByteArray), (⟨#[38, 38]⟩ : ByteArray), (⟨#[124, 124]⟩ : ByteArray), (⟨#[40]⟩ : ByteArray), (⟨#[41]⟩ : ByteArray), (⟨#[123]⟩ : ByteArray), (⟨#[125]⟩ : ByteArray), (⟨#[91]⟩ : ByteArray), (⟨#[93]⟩ : ByteArray), (⟨#[44]⟩ : ByteArray), (⟨#[59]⟩ : ByteArray), (⟨#[61]⟩ : ByteArray), (⟨#[60]⟩ : ByteArray), (⟨#[62]⟩ : ByteArray), (⟨#[43]⟩ : ByteArray), (⟨#[45]⟩ : ByteArray), (⟨#[42]⟩ : ByteArray), (⟨#[47]⟩ : ByteArray), (⟨#[37]⟩ : ByteArray), (⟨#[33]⟩ : ByteArray), (⟨#[38]⟩ : ByteArray)]
theorem signs_list : signsB.map (·.data.toList) = pairsP.map (fun p => [p.1, p.2]) ++ singleT.data.toList.map (fun c => [c]) := by kernel_rfl
theorem fm_pairs (Q : List (List UInt8)) (c d : UInt8) (r : List UInt8) : ∀ P : List (UInt8 × UInt8), fm (P.map (fun p => [p.1, p.2]) ++ Q) (c :: d :: r) = if P.contains (c, d) = true then [c, d] else fm Q (c :: d :: r)
  | [] => rfl
  | p :: P => by
    rw [List.map_cons, List.cons_append, fm]
    by_cases h : (c, d) = p
    · subst h
      rw [if_pos ⟨by simp, rfl⟩, if_pos (by simp)]
    · have h2 : ¬ ([p.1, p.2].length ≤ (c :: d :: r).length ∧ (c :: d :: r).take [p.1, p.2].length = [p.1, p.2]) := by
        intro h3
        apply h
        have h4 : [c, d] = [p.1, p.2] := h3.2
        injection h4 with h5 h6
        injection h6 with h6 _
        exact Prod.ext h5 h6
      rw [if_neg h2, fm_pairs Q c d r P, List.contains_cons]
      have h3 : ((c, d) == p) = false := by simpa using h
      rw [h3, Bool.false_or]
theorem fm_short (Q : List (List UInt8)) (c : UInt8) : ∀ P : List (UInt8 × UInt8), fm (P.map (fun p => [p.1, p.2]) ++ Q) [c] = fm Q [c]
  | [] => rfl
  | p :: P => by
    rw [List.map_cons, List.cons_append, fm, if_neg (fun h => by have := h.1; simp at this), fm_short Q c P]
theorem fm_ones (c : UInt8) (r : List UInt8) : ∀ S : List UInt8, fm (S.map (fun c => [c])) (c :: r) = if S.contains c = true then [c] else []
  | [] => rfl
  | e :: S => by
    rw [List.map_cons, fm]
    by_cases h : c = e
    · subst h
      rw [if_pos ⟨by simp, rfl⟩, if_pos (by simp)]
    · rw [if_neg (fun h3 => h (by have h4 : [c] = [e] := h3.2; injection h4)), fm_ones c r S, List.contains_cons]
      have h3 : (c == e) = false := by simpa using h
      rw [h3, Bool.false_or]
set_option maxRecDepth 100000 in
theorem pair_pieces : ((List.range pairsT.data.toList.length).all fun i => !((pairsT.data.toList.drop i).head? == some 32) || (((pairsT.data.toList.drop i).drop 1).takeWhile (fun c => c != 32)).isEmpty || (pairsP.map (fun p => [p.1, p.2])).contains (((pairsT.data.toList.drop i).drop 1).takeWhile (fun c => c != 32))) = true := by kernel_rfl
set_option maxRecDepth 100000 in
theorem pairs_in : (pairsP.all fun p => pair2 p.1 p.2) = true := by kernel_rfl
theorem pair_words (c d : UInt8) : pair2 c d = pairsP.contains (c, d) := by
  rw [Bool.eq_iff_iff]
  constructor
  · intro h
    simp only [pair2, Bool.and_eq_true, Bool.not_eq_true'] at h
    obtain ⟨⟨h0, h1⟩, h2⟩ := h
    have hn : (32 : UInt8) ∉ [c, d] := by
      intro hm
      simp only [List.mem_cons, List.not_mem_nil, or_false] at hm
      rcases hm with e | e
      · rw [← e] at h0; simp at h0
      · rw [← e] at h1; simp at h1
    rcases Lib.index_spec pairsT.data.toList [32, c, d, 32] with ⟨h3, _⟩ | ⟨i, h3, h4, h5, _⟩
    · simp [Lib.contains, h3] at h2
    · have h6 : [32, c, d, 32] <+: pairsT.data.toList.drop i := by simpa [Lib.occAt] using h5
      obtain ⟨y, hy⟩ := h6
      have hd : (pairsT.data.toList.drop i).drop 1 = [c, d] ++ 32 :: y := by rw [← hy]; rfl
      have hh : (pairsT.data.toList.drop i).head? = some 32 := by rw [← hy]; rfl
      have hi : i < pairsT.data.toList.length := by
        rcases Nat.lt_or_ge i pairsT.data.toList.length with h | h
        · exact h
        · rw [List.drop_of_length_le h] at hh; cases hh
      have := List.all_eq_true.1 pair_pieces i (List.mem_range.2 hi)
      rw [hd, take_not _ _ hn, hh] at this
      have h7 : [c, d] ∈ pairsP.map (fun p => [p.1, p.2]) := by simpa using this
      obtain ⟨p, hp, hpe⟩ := List.mem_map.1 h7
      injection hpe with e1 e2
      injection e2 with e2 _
      have : (c, d) = p := Prod.ext e1.symm e2.symm
      rw [this]
      simpa using hp
  · intro h
    have hm : (c, d) ∈ pairsP := by simpa using h
    exact List.all_eq_true.1 pairs_in _ hm
theorem fm_sign : ∀ l : List UInt8, l ≠ [] → fm (signsB.map (·.data.toList)) l = l.take (sg l)
  | [], h => absurd rfl h
  | [c], _ => by
    rw [signs_list, fm_short, fm_ones, sg]
    show (if hasB singleT c = true then _ else _) = _
    by_cases h : hasB singleT c = true
    · rw [if_pos h, if_pos h]; rfl
    · rw [if_neg h, if_neg h]; rfl
  | c :: d :: r, _ => by
    rw [signs_list, fm_pairs, fm_ones, ← pair_words, sg]
    show (if _ then _ else if hasB singleT c = true then _ else _) = _
    by_cases hp : pair2 c d = true
    · rw [if_pos hp, if_pos hp]; rfl
    · rw [if_neg hp, if_neg hp]
      by_cases h : hasB singleT c = true
      · rw [if_pos h, if_pos h]; rfl
      · rw [if_neg h, if_neg h]; rfl
theorem ref_sign (s : ByteArray) (h0 : s.data.toList ≠ []) (n : Nat) (hn : 25 ≤ n) : runnelref3_sign.f n s = some (bs (s.data.toList.take (sg s.data.toList))) := by
  obtain ⟨m, rfl⟩ : ∃ m, n = m + 1 := ⟨n - 1, by omega⟩
  rw [runnelref3_sign.f, ← fm_sign _ h0]
  exact sign_loop s signsB (by decide) m 0 (by show 24 ≤ m + 0; omega) (Nat.zero_le _)
end Go.Proofs.YtjlcbhlpibgplaaDoor.P
namespace Go.Proofs.YtjlcbhlpibgplaaDoor.P
open Go.RowKit Go.Proofs.YtjlcbhlpibgplaaDoorW.PrintWords
set_option linter.unusedVariables false
set_option linter.unusedSimpArgs false
/-- Behind blanks and comments. -/
def Stops (s : ByteArray) (j : Nat) : Prop := j ≤ s.size ∧ ∀ h : j < s.size, hasB blanksT s[j] = false ∧ s[j] ≠ 35
theorem blank_is (c : UInt8) : hasB blanksT c = (decide (c = 32) || decide (c = 9) || decide (c = 10)) := by
  simp only [hasB, blanksT, List.contains_cons, List.contains_nil, Bool.or_false]
  rw [Bool.eq_iff_iff]; simp [or_assoc]
theorem u8_int (c d : UInt8) : ((c.toNat : Int) = (d.toNat : Int)) ↔ c = d := ⟨fun e => UInt8.toNat_inj.1 (by omega), fun e => by rw [e]⟩
def Skip0 (s : ByteArray) (i : Nat) (r : Option Int) : Prop := ∃ j : Nat, r = some (j : Int) ∧ i ≤ j ∧ Stops s j ∧ lex (s.data.toList.drop i) i = lex (s.data.toList.drop j) j
def Skip1 (s : ByteArray) (i : Nat) (r : Option Int) : Prop := ∃ j : Nat, r = some (j : Int) ∧ i ≤ j ∧ Stops s j ∧ lex (s.data.toList.drop (runTo (fun c => c != 10) s i)) (runTo (fun c => c != 10) s i) = lex (s.data.toList.drop j) j
theorem skip_both (s : ByteArray) (hm : s.size ≤ 1000000) : ∀ n : Nat,
    (∀ i : Nat, i ≤ s.size → 3 * s.size + 2 ≤ n + 3 * i → Skip0 s i (runnelref3_skip.l0 n s (i : Int))) ∧
    (∀ i : Nat, i ≤ s.size → 3 * s.size + 3 ≤ n + 3 * i → Skip1 s i (runnelref3_skip.l1 n s (i : Int))) ∧
    (∀ i : Nat, (h : i < s.size) → s[i] = 35 → 3 * s.size + 1 ≤ n + 3 * i → Skip1 s i (runnelref3_skip.l1 n s (i : Int)))
  | 0 => ⟨fun i hi hn => by omega, fun i hi hn => by omega, fun i hi _ hn => by omega⟩
  | n + 1 => by
    obtain ⟨ih0, ih1, ih2⟩ := skip_both s hm n
    refine ⟨fun i hi hn => ?_, fun i hi hn => ?_, fun i hlt h35 hn => ?_⟩
    · rw [runnelref3_skip.l0]
      by_cases hlt : i < s.size
      · have hw : wrap64 ((i : Int) + 1) = ((i + 1 : Nat) : Int) := by unfold wrap64; omega
        rw [if_pos (by omega), if_pos (by omega), bt_nat s i hlt, hw]
        by_cases h35 : s[i] = 35
        · rw [if_pos (by rw [h35]; rfl)]
          obtain ⟨j, h1, h2, h3, h4⟩ := ih2 i hlt h35 (by omega)
          refine ⟨j, h1, h2, h3, ?_⟩
          have hr : runTo (fun c => c != 10) s i = runTo (fun c => c != 10) s (i + 1) := runTo_yes _ s i hlt (by rw [h35]; rfl)
          rw [← h4, drop_at s i hlt, h35, lex_note, hr, drop_run]
          rfl
        · rw [if_neg (fun e => h35 ((u8_int s[i] 35).1 e))]
          have next : hasB blanksT s[i] = true → Skip0 s i (runnelref3_skip.l0 n s ((i + 1 : Nat) : Int)) := fun hb => by
            obtain ⟨j, h1, h2, h3, h4⟩ := ih0 (i + 1) (by omega) (by omega)
            exact ⟨j, h1, by omega, h3, by rw [← h4, drop_at s i hlt, lex_blank _ _ hb]⟩
          by_cases h32 : s[i] = 32
          · rw [if_pos (by rw [h32]; rfl)]
            exact next (by rw [h32]; decide)
          · rw [if_neg (fun e => h32 ((u8_int s[i] 32).1 e))]
            by_cases h9 : s[i] = 9
            · rw [if_pos (by rw [h9]; rfl)]
              exact next (by rw [h9]; decide)
            · rw [if_neg (fun e => h9 ((u8_int s[i] 9).1 e))]
              by_cases h10 : s[i] = 10
              · rw [if_pos (by rw [h10]; rfl)]
                exact next (by rw [h10]; decide)
              · rw [if_neg (fun e => h10 ((u8_int s[i] 10).1 e))]
                exact ⟨i, rfl, Nat.le_refl _, ⟨hi, fun _ => ⟨by rw [blank_is]; simp [h32, h9, h10], h35⟩⟩, rfl⟩
      · rw [if_neg (by omega)]
        exact ⟨i, rfl, Nat.le_refl _, ⟨hi, fun h => by omega⟩, rfl⟩
    · rw [runnelref3_skip.l1]
      by_cases hlt : i < s.size
      · have hw : wrap64 ((i : Int) + 1) = ((i + 1 : Nat) : Int) := by unfold wrap64; omega
        rw [if_pos (by omega), if_pos (by omega), bt_nat s i hlt, hw]
        by_cases h10 : s[i] = 10
        · rw [if_pos (by rw [h10]; rfl)]
          obtain ⟨j, h1, h2, h3, h4⟩ := ih0 i hi (by omega)
          exact ⟨j, h1, h2, h3, by rw [runTo_no _ s i hlt (by rw [h10]; rfl)]; exact h4⟩
        · rw [if_neg (fun e => h10 ((u8_int s[i] 10).1 e))]
          obtain ⟨j, h1, h2, h3, h4⟩ := ih1 (i + 1) (by omega) (by omega)
          exact ⟨j, h1, by omega, h3, by rw [runTo_yes _ s i hlt (by simpa using h10)]; exact h4⟩
      · rw [if_neg (by omega)]
        obtain ⟨j, h1, h2, h3, h4⟩ := ih0 i hi (by omega)
        exact ⟨j, h1, h2, h3, by rw [runTo_end _ s i (by omega)]; exact h4⟩
    · rw [runnelref3_skip.l1]
      have hw : wrap64 ((i : Int) + 1) = ((i + 1 : Nat) : Int) := by unfold wrap64; omega
      rw [if_pos (by omega), if_pos (by omega), bt_nat s i hlt, hw]
      have h10 : ¬ s[i] = 10 := by rw [h35]; decide
      rw [if_neg (fun e => h10 ((u8_int s[i] 10).1 e))]
      obtain ⟨j, h1, h2, h3, h4⟩ := ih1 (i + 1) (by omega) (by omega)
      exact ⟨j, h1, by omega, h3, by rw [runTo_yes _ s i hlt (by simpa using h10)]; exact h4⟩
theorem ref_skip (s : ByteArray) (hm : s.size ≤ 1000000) (n i : Nat) (hi : i ≤ s.size) (hn : 3 * s.size + 2 ≤ n) : Skip0 s i (runnelref3_skip.f n s (i : Int)) := by
  rw [runnelref3_skip.f]
  exact (skip_both s hm n).1 i hi (by omega)
theorem parts_no45 (l : List UInt8) : (45 : UInt8) ∉ l.takeWhile (hasB partsT) := by
  intro h
  have := List.all_eq_true.1 (tw_parts l) _ h
  rw [no45] at this
  cases this
where
  tw_parts : ∀ l : List UInt8, (l.takeWhile (hasB partsT)).all (hasB partsT) = true
    | [] => rfl
    | c :: l => by
      by_cases h : hasB partsT c = true
      · rw [List.takeWhile_cons, if_pos h, List.all_cons, h, tw_parts l]; rfl
      · rw [List.takeWhile_cons, if_neg h]; rfl
  no45 : hasB partsT 45 = false := by kernel_rfl
/-- The row of letters is gone through. -/
theorem cut_l1 (s : ByteArray) (hm : s.size ≤ 1000000) (acc : List S30) (i m : Nat) : ∀ (d j : Nat), j + d = runTo (hasB partsT) s i → runTo (hasB partsT) s j = runTo (hasB partsT) s i → j ≤ s.size → runnelref3_Cut.l1 (m + d + 1) s acc (i : Int) (j : Int) = runnelref3_Cut.j2 m s acc (i : Int) (runTo (hasB partsT) s i : Nat)
  | 0, j, hd, hr, hj => by
    obtain rfl : j = runTo (hasB partsT) s i := by omega
    rw [Nat.add_zero, runnelref3_Cut.l1]
    by_cases hlt : runTo (hasB partsT) s i < s.size
    · have hp : hasB partsT (s[runTo (hasB partsT) s i]) = false := by
        rw [Bool.eq_false_iff]
        intro h
        have := (run_gt (hasB partsT) s _ hlt).2 h
        omega
      rw [if_pos (by omega), if_pos (by omega), bt_nat s _ hlt, ref_part]
      show (if hasB partsT _ = true then _ else _) = _
      rw [if_neg (by rw [hp]; decide)]
    · rw [if_neg (by omega)]
  | d + 1, j, hd, hr, hj => by
    have hlt : j < s.size := by
      rcases Nat.lt_or_ge j s.size with h | h
      · exact h
      · rw [runTo_end _ s j h] at hr; omega
    have hp : hasB partsT s[j] = true := (run_gt (hasB partsT) s j hlt).1 (by omega)
    have hw : wrap64 ((j : Int) + 1) = ((j + 1 : Nat) : Int) := by unfold wrap64; omega
    rw [runnelref3_Cut.l1, if_pos (by omega), if_pos (by omega), bt_nat s j hlt, ref_part]
    show (if hasB partsT _ = true then _ else _) = _
    rw [if_pos hp, hw, ← Nat.add_assoc]
    exact cut_l1 s hm acc i m d (j + 1) (by omega) (by rw [← hr, runTo_yes _ s j hlt hp]) (by omega)
/-- What holds behind each place further on. -/
def Later (s : ByteArray) (m i : Nat) : Prop := ∀ (j : Nat) (acc : List S30), Stops s j → acc.length ≤ j → i < j → runTo (hasB partsT) s i ≤ j → runnelref3_Cut.l0 m s acc (j : Int) = some (outcome acc (lex (s.data.toList.drop j) j))
theorem wrap_nat (n : Nat) (h : n ≤ 1000000) : wrap64 (n : Int) = (n : Int) := by unfold wrap64; omega
theorem sign_end (l : List UInt8) (T : ByteArray) (hT : T = bs (l.take (sg l))) (h0 : sg l = 0) : T.toList = [] := by
  rw [hT, toList_data, list_bs, h0]; rfl
theorem sign_not (l : List UInt8) (T : ByteArray) (hT : T = bs (l.take (sg l))) (h0 : sg l ≠ 0) : T.toList ≠ [] ∧ T.size = sg l := by
  have hle := sg_le l
  have hz : (l.take (sg l)).length = sg l := by rw [List.length_take]; omega
  rw [hT, toList_data, list_bs, bs_size]
  exact ⟨fun e => by rw [e] at hz; exact h0 hz.symm, hz⟩
theorem cut_sign (s : ByteArray) (hm : s.size ≤ 20000) (m i : Nat) (acc : List S30) (hlt : i < s.size) (hb : hasB blanksT s[i] = false) (h35 : s[i] ≠ 35) (hp : hasB partsT s[i] = false) (hac : acc.length ≤ i) (hmn : 10 * s.size + 50 ≤ m) (ih : Later s m i) :
    ((runnelref3_sign.f m (bs (s.data.toList.drop i))).bind fun t174 => (if (¬ t174.toList = ([] : List UInt8)) then (if acc.length < 3518437208883 then ((runnelref3_skip.f m s (wrap64 ((i : Int) + (t174.size : Int)))).bind fun t178 => (runnelref3_Cut.l0 m s (acc ++ [(⟨3, 0, i, t174⟩ : S30)]) t178)) else (none)) else (some (([] : List (S30)), (i : Int), 2))))
      = some (outcome acc (lex (s.data.toList.drop i) i)) := by
  have hdr : s.data.toList.drop i = s[i] :: s.data.toList.drop (i + 1) := drop_at s i hlt
  have hne : (bs (s.data.toList.drop i)).data.toList ≠ [] := by rw [list_bs, hdr]; simp
  have hlx := lex_sign (s.data.toList.drop (i + 1)) i hb h35 hp
  rw [← hdr] at hlx
  have hsl := sg_le (s.data.toList.drop i)
  rw [List.length_drop, data_len] at hsl
  have hrs := ref_sign _ hne m (by omega)
  rw [list_bs] at hrs
  obtain ⟨T, hT⟩ : ∃ T, T = bs ((s.data.toList.drop i).take (sg (s.data.toList.drop i))) := ⟨_, rfl⟩
  rw [hrs, hlx, Option.bind_some, ← hT]
  by_cases h0 : sg (s.data.toList.drop i) = 0
  · have hTe := sign_end _ T hT h0
    rw [if_neg (fun h => h hTe), if_pos h0]; rfl
  · obtain ⟨hTn, hTz⟩ := sign_not _ T hT h0
    rw [if_pos hTn, if_neg h0, if_pos (by omega), outcome_cons, hTz]
    have hw : wrap64 ((i : Int) + (sg (s.data.toList.drop i) : Int)) = ((i + sg (s.data.toList.drop i) : Nat) : Int) := by
      rw [← Int.natCast_add]; exact wrap_nat _ (by omega)
    obtain ⟨j, h1, h2, h3, h4⟩ := ref_skip s (by omega) m (i + sg (s.data.toList.drop i)) (by omega) (by omega)
    have hdd : (s.data.toList.drop (i + 1)).drop (sg (s.data.toList.drop i) - 1) = s.data.toList.drop (i + sg (s.data.toList.drop i)) := by
      rw [List.drop_drop]; congr 1; omega
    rw [hw, h1, hdd, h4, Option.bind_some]
    exact ih j _ h3 (by simp; omega) (by omega) (by rw [runTo_no _ s i hlt hp]; omega)
theorem lex_row (s : ByteArray) (i : Nat) (hlt : i < s.size) (hp : hasB partsT s[i] = true) (x : ByteArray) (hx : x = bs ((s.data.toList.drop i).takeWhile (hasB partsT))) : lex (s.data.toList.drop i) i = if wordK x = 0 then .inl i
    else (lex (s.data.toList.drop (runTo (hasB partsT) s i)) (runTo (hasB partsT) s i)).map id (⟨wordK x, wordV x, i, x⟩ :: ·) := by
  have hdr : s.data.toList.drop i = s[i] :: s.data.toList.drop (i + 1) := drop_at s i hlt
  have h2 : runTo (hasB partsT) s i = i + 1 + ((s.data.toList.drop (i + 1)).takeWhile (hasB partsT)).length := by rw [runTo_yes _ s i hlt hp]; rfl
  have h3 : s.data.toList.drop (runTo (hasB partsT) s i) = (s.data.toList.drop (i + 1)).dropWhile (hasB partsT) := by rw [drop_run, hdr, List.dropWhile_cons, if_pos hp]
  have h4 : x = bs (s[i] :: (s.data.toList.drop (i + 1)).takeWhile (hasB partsT)) := by rw [hx, hdr, List.takeWhile_cons, if_pos hp]
  rw [hdr, lex_word _ _ hp, ← h4, h3, h2]
theorem cut_j2 (s : ByteArray) (hm : s.size ≤ 20000) (m i : Nat) (acc : List S30) (hlt : i < s.size) (hb : hasB blanksT s[i] = false) (h35 : s[i] ≠ 35) (hac : acc.length ≤ i) (hmn : 10 * s.size + 50 ≤ m) (ih : Later s m i) :
    runnelref3_Cut.j2 (m + 1) s acc (i : Int) (runTo (hasB partsT) s i : Nat) = some (outcome acc (lex (s.data.toList.drop i) i)) := by
  have hi : i ≤ s.size := by omega
  have hrg := runTo_ge (hasB partsT) s i
  have hrl := runTo_le (hasB partsT) s i hi
  rw [runnelref3_Cut.j2, if_pos (by omega), if_pos (by omega), if_pos (by omega)]
  have hx : s.extract (i : Int).toNat ((runTo (hasB partsT) s i : Nat) : Int).toNat = bs ((s.data.toList.drop i).takeWhile (hasB partsT)) := by
    rw [Int.toNat_natCast, Int.toNat_natCast, extract_run]
  have hsx : s.extract (i : Int).toNat s.size = bs (s.data.toList.drop i) := by
    rw [Int.toNat_natCast, extract_bs, List.take_of_length_le (by rw [List.length_drop, data_len]; omega)]
  have hxz : (bs ((s.data.toList.drop i).takeWhile (hasB partsT))).size ≤ s.size := by
    rw [← extract_run]; simp; omega
  have h45 : (45 : UInt8) ∉ (bs ((s.data.toList.drop i).takeWhile (hasB partsT))).data.toList := by rw [list_bs]; exact parts_no45 _
  rw [hx, hsx]
  obtain ⟨x, hxe⟩ : ∃ x, x = bs ((s.data.toList.drop i).takeWhile (hasB partsT)) := ⟨_, rfl⟩
  rw [← hxe] at hxz h45 ⊢
  rw [ref_word x (by omega) h45 _ m (by omega), Option.bind_some]
  by_cases hp : hasB partsT s[i] = true
  · have hig : i < runTo (hasB partsT) s i := (run_gt _ _ _ hlt).2 hp
    rw [if_neg (by omega), lex_row s i hlt hp x hxe]
    by_cases hk : wordK x = 0
    · rw [if_pos hk, if_pos hk]; rfl
    · rw [if_neg hk, if_neg hk, outcome_cons]
      show (if true = true then _ else _) = _
      rw [if_pos rfl, if_pos (by omega)]
      obtain ⟨j, h1, h2, h3, h4⟩ := ref_skip s (by omega) m (runTo (hasB partsT) s i) hrl (by omega)
      rw [h1, h4, Option.bind_some]
      exact ih j _ h3 (by simp; omega) (by omega) h2
  · have hp' : hasB partsT s[i] = false := by simpa using hp
    have hri : runTo (hasB partsT) s i = i := runTo_no _ s i hlt hp'
    rw [hri, if_pos rfl, if_pos (by omega)]
    exact cut_sign s hm m i acc hlt hb h35 hp' hac hmn ih
theorem cut_ref (s : ByteArray) (hm : s.size ≤ 20000) (n : Nat) : ∀ (i : Nat) (acc : List S30), Stops s i → acc.length ≤ i → 10 * s.size + 100 + 4 * s.size + 1 ≤ n + 4 * i →
    runnelref3_Cut.l0 n s acc (i : Int) = some (outcome acc (lex (s.data.toList.drop i) i)) := by
  induction n using Nat.strongRecOn with
  | ind n ih =>
    intro i acc hst hac hn
    have hi := hst.1
    obtain ⟨k, rfl⟩ : ∃ k, n = k + 1 := ⟨n - 1, by omega⟩
    rw [runnelref3_Cut.l0]
    by_cases hlt : i < s.size
    · obtain ⟨hb, h35⟩ := hst.2 hlt
      have hrg := runTo_ge (hasB partsT) s i
      have hrl := runTo_le (hasB partsT) s i hi
      obtain ⟨d, hd⟩ : ∃ d, i + d = runTo (hasB partsT) s i := ⟨runTo (hasB partsT) s i - i, by omega⟩
      obtain ⟨m, hmn⟩ : ∃ m, k = m + 1 + d + 1 := ⟨k - d - 2, by omega⟩
      rw [if_pos (by omega), hmn, cut_l1 s (by omega) acc i (m + 1) d i hd rfl hi]
      refine cut_j2 s hm m i acc hlt hb h35 hac (by omega) ?_
      intro j acc' hs2 ha2 hij hjr
      exact ih m (by omega) j acc' hs2 ha2 (by omega)
    · obtain rfl : i = s.size := by omega
      rw [if_neg (by omega), if_pos (by omega), List.drop_of_length_le (by rw [data_len]; omega), lex_nil]
      rfl
theorem ref_cut (s : ByteArray) : runnelref3_Cut.f (14 * s.size + 101) s = some (cutR s) := by
  rw [runnelref3_Cut.f]
  by_cases hs : s.size ≤ 20000
  · rw [if_neg (by omega)]
    obtain ⟨j, h1, h2, h3, h4⟩ := ref_skip s (by omega) (14 * s.size + 101) 0 (Nat.zero_le _) (by omega)
    have h1' : runnelref3_skip.f (14 * s.size + 101) s 0 = some (j : Int) := h1
    rw [h1', cutR_lex s hs]
    rw [List.drop_zero] at h4
    rw [h4]
    exact cut_ref s hs _ j [] h3 (Nat.zero_le _) (by omega)
  · rw [if_pos (by omega), cutR, if_pos (by omega)]
end Go.Proofs.YtjlcbhlpibgplaaDoor.P
namespace Go.Proofs.YtjlcbhlpibgplaaDoor.P
open Go.RowKit Go.Proofs.YtjlcbhlpibgplaaDoorW.PrintWords Go.Proofs.YtjlcbhlpibgplaaDoorW.PrintLast Go.Proofs.YtjlcbhlpibgplaaDoorW.PrintMore
set_option linter.unusedVariables false
set_option linter.unusedSimpArgs false
theorem same_loop (a : List S30) (hm : a.length ≤ 1000000) : ∀ (n i : Nat), a.length ≤ n + i → i ≤ a.length → runnellaw3_same.l0 (n + 1) a a (i : Int) = some true
  | 0, i, hn, hi => by rw [runnellaw3_same.l0, if_neg (by omega)]
  | n + 1, i, hn, hi => by
    rw [runnellaw3_same.l0]
    by_cases hlt : i < a.length
    · have hw : wrap64 ((i : Int) + 1) = ((i + 1 : Nat) : Int) := by unfold wrap64; omega
      rw [if_pos (by omega), if_pos (by omega), if_pos (by omega), if_neg (by simp), hw]
      exact same_loop a hm n (i + 1) (by omega) (by omega)
    · rw [if_neg (by omega)]
theorem same_ok (a : List S30) (hm : a.length ≤ 1000000) : runnellaw3_same.f (a.length + 1) a a = some true := by
  rw [runnellaw3_same.f, if_pos rfl]
  exact same_loop a hm a.length 0 (by omega) (by omega)
theorem cutR_len (s : ByteArray) (hs : s.size ≤ 2000) : (cutR s).1.length ≤ 2001 := by
  rw [cutR_lex s (by omega)]
  cases hx : lex s.data.toList 0 with
  | inl n => exact Nat.zero_le _
  | inr ts =>
    have := lex_len _ _ _ _ (Nat.le_refl _) hx
    rw [data_len] at this
    show ([] ++ ts).length ≤ 2001
    rw [List.nil_append]; omega
set_option maxRecDepth 100000 in
set_option maxHeartbeats 8000000 in
theorem cuts_1 (s : ByteArray) (hs : s.size ≤ 2000) (l : List S30) (n e : Int) (hl : l.length ≤ 2001) (hcs : cutR s = (l, n, e)) (w : World) (hE : Env w) :
    Calls Tryd.prog 3 #[.string s] w fun e_ w' => e_ = .returned (.bool true) ∧ Below w.heap.size w w' := by
  have HE := Lib.hid hE
  have HS := Lib.hid hcs
  have hr := ref_cut s
  rw [hcs] at hr
  have HR := Lib.hid (fun w => runnelref3_Cut.calls (14 * s.size + 101) s l n e w hr)
  have HL := Lib.hid (fun A1 c1 A2 c2 (w : World) h1 h2 h3 h4 => runnellaw3_same.calls (l.length + 1) A1 c1 l A2 c2 l true w h1 h2 h3 h4 (same_ok l (by omega)))
  clear hE hcs hr
  have t1 : decide ((2000 : Int) < (s.size : Int)) = false := by simp; omega
  have t2 : decide (2000 < s.size) = false := by simp; omega
  go_enter Tryd.func3, Tryd.ntmps3
  go_wp2_with fail
  refine (shown_is w HE.out).mono ?_
  rintro e_ w1 ⟨rfl, hb_⟩
  have HB1 : Hid (Below w.heap.size w w1) := Lib.hid hb_
  clear hb_
  go_wp2_with fail
  refine (cut_to HS.out w1 (HE.out.below HB1.out HE.out.six)).mono ?_
  rintro e_ w2 ⟨A1, c1, rfl, hc1, hC1, hb_⟩
  have HB2 : Hid (Below w.heap.size w w2) := Lib.hid (below_step HB1.out hb_)
  clear hb_ HB1
  go_wp2_with fail
  refine (HR.out w2).mono ?_
  rintro e_ w3 ⟨v_, rfl, hR_, hb_⟩
  obtain ⟨A2, c2, rfl, hc2_, hC2_⟩ := Kd.R_reads hR_
  have hc2 := Lib.hid hc2_
  have hC2 := Lib.hid hC2_
  have hC3 := Lib.hid (Kd.C_below hC1.out hb_)
  have HB3 : Hid (Below w.heap.size w w3) := Lib.hid (below_step HB2.out hb_)
  clear hb_ HB2 hR_ hc2_ hC2_ hC1
  go_wp2_with fail
  refine (HL.out A1 c1 A2 c2 w3 hC3.out hc1.out hC2.out hc2.out).mono ?_
  rintro e_ w4 ⟨rfl, hd_⟩
  have HB4 : Hid (Below w.heap.size w w4) := Lib.hid (by
    obtain ⟨k_, rfl⟩ := hd_
    exact pw_below_drewN HB3.out _)
  clear hd_
  go_wp2_with fail
  go_ret
  exact ⟨rfl, HB4.out⟩
set_option maxRecDepth 100000 in
set_option maxHeartbeats 4000000 in
theorem tokenCuts_any (s : ByteArray) (w : World) (hE : Env w) : Calls Tryd.prog 3 #[.string s] w fun e w' => e = .returned (.bool true) ∧ Below w.heap.size w w' := by
  by_cases hs : s.size ≤ 2000
  · have hl := cutR_len s hs
    rcases h : cutR s with ⟨l, n, e⟩
    rw [h] at hl
    exact cuts_1 s hs l n e hl h w hE
  · have HE := Lib.hid hE
    clear hE
    have t1 : decide ((2000 : Int) < (s.size : Int)) = true := by simp; omega
    have t2 : decide (2000 < s.size) = true := by simp; omega
    go_enter Tryd.func3, Tryd.ntmps3
    go_wp2_with fail
    refine (shown_is w HE.out).mono ?_
    rintro e_ w1 ⟨rfl, hb_⟩
    have HB1 : Hid (Below w.heap.size w w1) := Lib.hid hb_
    clear hb_
    go_wp2_with fail
    go_ret
    exact ⟨rfl, HB1.out⟩
end Go.Proofs.YtjlcbhlpibgplaaDoor.P
