/- TokenLines: the line and the column of a place tell it again. -/
import Derived.Test.YtjlcbhlpibgplaaDoorTokP
import Derived.Test.YtjlcbhlpibgplaaDoorTokG
namespace Go.Proofs.YtjlcbhlpibgplaaDoor.P
open Go.RowKit Go.Proofs.YtjlcbhlpibgplaaDoorW.PrintWords Go.Proofs.YtjlcbhlpibgplaaDoorW.PrintLast Go.Proofs.YtjlcbhlpibgplaaDoorW.PrintMore
set_option linter.unusedVariables false
set_option linter.unusedSimpArgs false
theorem extract_at (s : ByteArray) (k j : Nat) (hj : j < k) (hk : k ≤ s.size) : (s.extract 0 k).data[j]! = s[j]'(by omega) := by
  cases s with | mk a =>
  have h1 : k ≤ a.size := hk
  have h2 : j < (a.extract 0 k).size := by simp; omega
  show (ByteArray.extract ⟨a⟩ 0 k).data[j]! = a[j]
  simp only [ByteArray.data_extract]
  rw [getElem!_pos _ j h2]
  simp
/-- Place, told by where the line begins. -/
theorem place_at (s : ByteArray) (at_ : Int) (hsz : s.size ≤ 1000000) : ∃ b k f : Nat, lastN s (clampN s at_) = (b : Int) - 1 ∧ k = clampN s at_ ∧ f = feedsN s k ∧ k ≤ s.size ∧ b ≤ k ∧ (∀ h : 0 < b ∧ b ≤ s.size, s[b - 1] = 10) ∧ ∀ j (h : j < s.size), b ≤ j → j < k → s[j] ≠ 10 := by
  have hks : clampN s at_ ≤ s.size := by rw [clampN]; omega
  have hz : (s.extract 0 (clampN s at_)).size = clampN s at_ := by simp; omega
  rcases Lib.lastIndexByte_spec (s.extract 0 (clampN s at_)) 10 with ⟨h, hn⟩ | ⟨i, hi, h, hc, hn⟩
  · refine ⟨0, _, _, by rw [lastN, h]; rfl, rfl, rfl, hks, by omega, fun h => by omega, fun j h _ hj e => ?_⟩
    have := hn j (by omega)
    rw [extract_at s _ j hj hks, e] at this
    exact this rfl
  · rw [hz] at hi hn
    refine ⟨i + 1, _, _, by rw [lastN, h]; omega, rfl, rfl, hks, by omega, fun h => ?_, fun j h h1 hj e => ?_⟩
    · rw [extract_at s _ i hi hks] at hc
      have : s[i] = 10 := UInt8.toNat_inj.1 (by have : (10 : UInt8).toNat = 10 := rfl; omega)
      simpa using this
    · have := hn j (by omega) hj
      rw [extract_at s _ j hj hks, e] at this
      exact this rfl
theorem feeds_succ (s : ByteArray) (i : Nat) (h : i < s.size) : feedsN s (i + 1) = feedsN s i + if s[i] = 10 then 1 else 0 := by
  unfold feedsN
  rw [take_at s i h, List.count_append, List.count_singleton]
  simp
theorem feeds_le (s : ByteArray) (i : Nat) : feedsN s i ≤ i := by
  have := List.count_le_length (a := (10 : UInt8)) (l := s.data.toList.take i)
  rw [List.length_take] at this
  unfold feedsN; omega
set_option maxRecDepth 100000 in
set_option maxHeartbeats 8000000 in
theorem tokenLines_any (s : ByteArray) (at_ : Int) (w : World) (hE : Env w) : Calls Tryd.prog 7 #[.string s, .int .i64 at_] w fun e w' => e = .returned (.bool true) ∧ Below w.heap.size w w' := by
  have HE := Lib.hid hE
  clear hE
  by_cases hs : s.size ≤ 1000
  · obtain ⟨b, k, f, h1, h2, h3, h4, h5, h6, h7⟩ := place_at s at_ (by omega)
    have t1 : decide ((1000 : Int) < (s.size : Int)) = false := by simp; omega
    have t2 : decide (1000 < s.size) = false := by simp; omega
    have hm : max 0 (min at_ (s.size : Int)) = (k : Int) := by rw [h2, clampN]; omega
    have HP := place_is s at_ (by omega)
    rw [h1, ← h2, ← h3] at HP
    have HPP := Lib.hid HP
    have hfl : f ≤ k := by rw [h3]; exact feeds_le s k
    have H3 := Lib.hid h3
    have H6 := Lib.hid h6
    have H7 := Lib.hid h7
    clear h1 h2 h3 HP h6 h7
    go_enter Tryd.func7, Tryd.ntmps7
    go_wp2_with fail
    refine (shown_is w HE.out).mono ?_
    rintro e_ w1 ⟨rfl, hb_⟩
    have HB1 : Hid (Below w.heap.size w w1) := Lib.hid hb_
    clear hb_
    go_wp2_with fail
    refine (HPP.out w1).mono ?_
    rintro e_ w2 ⟨rfl, rfl⟩
    clear HPP
    have wr1 : IntKind.i64.wrap ((k : Int) - ((b : Int) - 1) - 1) = (k : Int) - b := by rw [i64_w]; unfold wrap64; omega
    have wr2 : IntKind.i64.wrap ((k : Int) - ((k : Int) - b)) = (b : Int) := by rw [i64_w]; unfold wrap64; omega
    have q1 : decide ((k : Int) - ((b : Int) - 1) < 1) = false := decide_eq_false (by omega)
    have q2 : decide ((f : Int) + 1 < 1) = false := decide_eq_false (by omega)
    have q3 : decide ((b : Int) < 0) = false := decide_eq_false (by omega)
    by_cases hb0 : b = 0
    · subst hb0
      go_wp2_with fail
      go_loop [10, 11] (fun v10 v11 => ∃ i : Nat, i ≤ k ∧ v11 = .int .i64 i ∧ v10 = .int .i64 (feedsN s i)) (fun _ v11 => k - (intOf v11).toNat)
      case atStart => exact ⟨0, Nat.zero_le _, rfl, rfl⟩
      case round =>
        obtain ⟨i, hi, rfl, rfl⟩ := hrel
        have hfi := feeds_le s i
        by_cases hlt : i < k
        · have hsu := feeds_succ s i (by omega)
          by_cases h10 : s[i] = 10
          · rw [if_pos h10] at hsu
            have q4 : ((s[i].toNat : Int) == 10) = true := by rw [h10]; rfl
            have hib : i < 0 := by
              by_cases h : i < 0
              · exact h
              · exact absurd h10 (H7.out i (by omega) (by omega) hlt)
            have HSU := Lib.hid hsu
            clear hsu h10
            exact absurd hib (Nat.not_lt_zero _)
          · rw [if_neg h10] at hsu
            have q4 : ((s[i].toNat : Int) == 10) = false := beq_eq_false_iff_ne.2 (u8_ne h10)
            have HSU := Lib.hid hsu
            clear hsu h10
            go_wp2_with fail
            go_round
            case rel => exact ⟨i + 1, hlt, by norm_cast, by rw [HSU.out]; norm_cast⟩
            case measure => first | (simp [intOf]; done) | (simp [intOf]; omega)
        · obtain rfl : i = k := by omega
          rw [← H3.out]
          go_wp2_with fail
          go_ret
          exact ⟨rfl, HB1.out⟩
    · have hb1 : s[b - 1]'(by omega) = 10 := H6.out ⟨by omega, by omega⟩
      have wr3 : IntKind.i64.wrap ((b : Int) - 1) = (b : Int) - 1 := by rw [i64_w]; unfold wrap64; omega
      have hbn : ((b : Int) - 1).toNat = b - 1 := by omega
      go_wp2_with fail
      go_loop [10, 11] (fun v10 v11 => ∃ i : Nat, i ≤ k ∧ v11 = .int .i64 i ∧ v10 = .int .i64 (feedsN s i)) (fun _ v11 => k - (intOf v11).toNat)
      case atStart => exact ⟨0, Nat.zero_le _, rfl, rfl⟩
      case round =>
        obtain ⟨i, hi, rfl, rfl⟩ := hrel
        have hfi := feeds_le s i
        by_cases hlt : i < k
        · have hsu := feeds_succ s i (by omega)
          by_cases h10 : s[i] = 10
          · rw [if_pos h10] at hsu
            have q4 : ((s[i].toNat : Int) == 10) = true := by rw [h10]; rfl
            have hib : i < b := by
              by_cases h : i < b
              · exact h
              · exact absurd h10 (H7.out i (by omega) (by omega) hlt)
            have HSU := Lib.hid hsu
            clear hsu h10
            go_wp2_with fail
            go_round
            case rel => exact ⟨i + 1, hlt, by norm_cast, by rw [HSU.out]; norm_cast⟩
            case measure => first | (simp [intOf]; done) | (simp [intOf]; omega)
          · rw [if_neg h10] at hsu
            have q4 : ((s[i].toNat : Int) == 10) = false := beq_eq_false_iff_ne.2 (u8_ne h10)
            have HSU := Lib.hid hsu
            clear hsu h10
            go_wp2_with fail
            go_round
            case rel => exact ⟨i + 1, hlt, by norm_cast, by rw [HSU.out]; norm_cast⟩
            case measure => first | (simp [intOf]; done) | (simp [intOf]; omega)
        · obtain rfl : i = k := by omega
          rw [← H3.out]
          go_wp2_with fail
          go_ret
          exact ⟨rfl, HB1.out⟩
  · have t1 : decide ((1000 : Int) < (s.size : Int)) = true := by simp; omega
    have t2 : decide (1000 < s.size) = true := by simp; omega
    go_enter Tryd.func7, Tryd.ntmps7
    go_wp2_with fail
    refine (shown_is w HE.out).mono ?_
    rintro e_ w1 ⟨rfl, hb_⟩
    have HB1 : Hid (Below w.heap.size w w1) := Lib.hid hb_
    clear hb_
    go_wp2_with fail
    go_ret
    exact ⟨rfl, HB1.out⟩
end Go.Proofs.YtjlcbhlpibgplaaDoor.P
