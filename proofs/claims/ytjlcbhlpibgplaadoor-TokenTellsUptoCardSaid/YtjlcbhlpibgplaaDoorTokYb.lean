/- The document's Join and Place: they are the program's. Plainly. -/
import Derived.Test.YtjlcbhlpibgplaaDoorTokYa
import Derived.Test.YtjlcbhlpibgplaaDoorTokW
import Derived.Test.YtjlcbhlpibgplaaDoorTokQ
import Derived.Test.YtjlcbhlpibgplaaDoorPf19
import Derived.Test.YtjlcbhlpibgplaaDoorPf22
namespace Go.Proofs.YtjlcbhlpibgplaaDoor.P
open Go.RowKit Go.Proofs.YtjlcbhlpibgplaaDoorW.PrintWords
set_option linter.unusedVariables false
set_option linter.unusedSimpArgs false
/-- What is still to come. -/
def restJ (first : Bool) (T : List (List UInt8)) : List UInt8 := if first = true then Lib.join T [32] else Lib.joinTail [32] T
def textsL (l : List S30) : List (List UInt8) := (textsOf l).map (·.data.toList)
theorem texts_cons (t : S30) (l : List S30) : textsL (t :: l) = if t.f0 = 5 then textsL l else t.f3.data.toList :: textsL l := by
  unfold textsL textsOf
  by_cases h : t.f0 = 5
  · rw [if_pos h, List.filter_cons, if_neg (by simp [h])]
  · rw [if_neg h, List.filter_cons, if_pos (by simpa using h)]; rfl
theorem joinTail_cons (x : List UInt8) (r : List (List UInt8)) : Lib.joinTail [32] (x :: r) = 32 :: (x ++ Lib.joinTail [32] r) := by simp [Lib.joinTail]
theorem bs_append (a b : ByteArray) : bs (a.data.toList ++ b.data.toList) = a ++ b := by
  apply ByteArray.ext
  simp [bs, ByteArray.data_append]
theorem join_loop (l : List S30) (hm : l.length ≤ 1000000) : ∀ (n i : Nat) (acc : ByteArray) (first : Bool), l.length ≤ n + i → i ≤ l.length → acc.size + (restJ first (textsL (l.drop i))).length ≤ 140737488355328 →
    runnelref3_Join.l0 (n + 1) l acc first (i : Int) = some (bs (acc.data.toList ++ restJ first (textsL (l.drop i))))
  | 0, i, acc, first, hn, hi, hz => by
    rw [runnelref3_Join.l0, if_neg (by omega), List.drop_of_length_le (by omega)]
    cases first <;> simp [restJ, textsL, textsOf, Lib.join_nil, Lib.joinTail, bs_list]
  | n + 1, i, acc, first, hn, hi, hz => by
    rw [runnelref3_Join.l0]
    by_cases hlt : i < l.length
    · have hw : wrap64 ((i : Int) + 1) = ((i + 1 : Nat) : Int) := by unfold wrap64; omega
      rw [if_pos (by omega), if_pos (by omega), rd_get l i hlt, hw]
      rw [List.drop_eq_getElem_cons hlt, texts_cons] at hz ⊢
      by_cases h5 : l[i].f0 = 5
      · rw [if_pos h5] at hz ⊢
        rw [if_pos h5]
        exact join_loop l hm n (i + 1) acc first (by omega) (by omega) hz
      · rw [if_neg h5] at hz ⊢
        rw [if_neg h5]
        have hfz : l[i].f3.data.toList.length = l[i].f3.size := data_len _
        cases first with
        | true =>
          simp only [restJ, if_true, Lib.join_cons, List.length_append, hfz] at hz ⊢
          rw [if_pos (by omega), join_loop l hm n (i + 1) _ false (by omega) (by omega) (by simp only [restJ, Bool.false_eq_true, if_false, ByteArray.size_append]; omega)]
          simp [restJ, ByteArray.data_append]
        | false =>
          simp only [restJ, Bool.false_eq_true, if_false, joinTail_cons, List.length_cons, List.length_append, hfz] at hz ⊢
          rw [if_pos (by omega), if_pos (by rw [ByteArray.size_append]; show acc.size + 1 + _ ≤ _; omega), join_loop l hm n (i + 1) _ false (by omega) (by omega) (by simp only [restJ, Bool.false_eq_true, if_false, ByteArray.size_append]; show acc.size + 1 + _ + _ ≤ _; omega)]
          simp [restJ, ByteArray.data_append]
    · rw [if_neg (by omega), List.drop_of_length_le (by omega)]
      cases first <;> simp [restJ, textsL, textsOf, Lib.join_nil, Lib.joinTail, bs_list]
theorem ref_join (l : List S30) (hm : l.length ≤ 1000000) (hz : (Lib.join (textsL l) [32]).length ≤ 140737488355328) : runnelref3_Join.f (l.length + 1) l = some (joinB (textsOf l)) := by
  rw [runnelref3_Join.f]
  refine (join_loop l hm l.length 0 _ true (by omega) (Nat.zero_le _) (by show 0 + _ ≤ _; simp only [restJ, if_true, List.drop_zero]; omega)).trans ?_
  rfl
theorem lastIdx_congr (a b : ByteArray) (c : Int) : ∀ k : Nat, (∀ j, j < k → a.data[j]! = b.data[j]!) → Lib.lastIdx a c k = Lib.lastIdx b c k
  | 0, _ => rfl
  | k + 1, h => by
    unfold Lib.lastIdx
    rw [h k (by omega), lastIdx_congr a b c k (fun j hj => h j (by omega))]
theorem data_get (s : ByteArray) (j : Nat) (h : j < s.size) : s.data[j]! = s[j] := by
  cases s with | mk a => exact getElem!_pos a j h
theorem last_is (s : ByteArray) (k : Nat) (hk : k ≤ s.size) : lastN s k = Lib.lastIdx s 10 k := by
  have hz : (s.extract 0 k).size = k := by simp; omega
  rw [lastN, Lib.lastIndexByte, hz]
  exact lastIdx_congr _ _ _ k fun j hj => by rw [extract_at s k j hj hk, data_get s j (by omega)]
theorem last_succ (s : ByteArray) (i : Nat) (h : i < s.size) : lastN s (i + 1) = if s[i] = 10 then (i : Int) else lastN s i := by
  rw [last_is s (i + 1) h, last_is s i (by omega)]
  by_cases h10 : s[i] = 10
  · rw [if_pos h10]
    exact Lib.lastIdx_hit s 10 i (by rw [data_get s i h, h10]; rfl)
  · rw [if_neg h10]
    exact Lib.lastIdx_miss s 10 i (by rw [data_get s i h]; exact u8_ne h10)
theorem place_loop (s : ByteArray) (at_ : Int) (hm : s.size ≤ 1000000) : ∀ (n i : Nat), clampN s at_ ≤ n + i → i ≤ clampN s at_ →
    runnelref3_Place.l0 (2 * n + 2) s at_ ((feedsN s i : Int) + 1) ((i : Int) - lastN s i) (i : Int) = some ((feedsN s (clampN s at_) : Int) + 1, (clampN s at_ : Int) - lastN s (clampN s at_))
  | n, i, hn, hi => by
    have hks : clampN s at_ ≤ s.size := by rw [clampN]; omega
    rw [runnelref3_Place.l0]
    by_cases hlt : i < clampN s at_
    · have hat : (i : Int) < at_ := by rw [clampN] at hlt; omega
      obtain ⟨m, rfl⟩ : ∃ m, n = m + 1 := ⟨n - 1, by omega⟩
      have hfe := feeds_le s i
      have hla := last_range s i (by omega)
      have hw : wrap64 ((i : Int) + 1) = ((i + 1 : Nat) : Int) := by unfold wrap64; omega
      have hw1 : wrap64 ((feedsN s i : Int) + 1 + 1) = (feedsN s i : Int) + 1 + 1 := by unfold wrap64; omega
      have hw2 : wrap64 ((i : Int) - lastN s i + 1) = (i : Int) - lastN s i + 1 := by unfold wrap64; omega
      have ih := place_loop s at_ hm m (i + 1) (by omega) (by omega)
      rw [feeds_succ s i (by omega), last_succ s i (by omega)] at ih
      rw [if_pos (by omega), decide_eq_true hat, show 2 * (m + 1) + 1 = (2 * m + 2) + 1 by omega, runnelref3_Place.j1, if_pos rfl, if_pos (by omega), if_pos (by omega), bt_nat s i (by omega), hw, hw1, hw2]
      by_cases h10 : s[i] = 10
      · rw [if_pos (by rw [h10]; rfl)]
        rw [if_pos h10, if_pos h10] at ih
        refine Eq.trans ?_ ih
        congr 1
        omega
      · rw [if_neg (show ¬ ((s[i].toNat : Int) = 10) from u8_ne h10)]
        rw [if_neg h10, if_neg h10] at ih
        refine Eq.trans ?_ ih
        congr 1
        omega
    · obtain rfl : i = clampN s at_ := by omega
      have hfin : runnelref3_Place.j1 (2 * n + 1) s at_ ((feedsN s (clampN s at_) : Int) + 1) ((clampN s at_ : Int) - lastN s (clampN s at_)) (clampN s at_ : Int) false = some ((feedsN s (clampN s at_) : Int) + 1, (clampN s at_ : Int) - lastN s (clampN s at_)) := by
        rw [runnelref3_Place.j1, if_neg (by simp)]
      by_cases hs : clampN s at_ < s.size
      · have hat : ¬ (clampN s at_ : Int) < at_ := by rw [clampN] at hs ⊢; omega
        rw [if_pos (by omega), decide_eq_false hat]
        exact hfin
      · rw [if_neg (by omega)]
        exact hfin
theorem ref_place (s : ByteArray) (at_ : Int) (hm : s.size ≤ 1000000) : runnelref3_Place.f (2 * s.size + 2) s at_ = some ((feedsN s (clampN s at_) : Int) + 1, (clampN s at_ : Int) - lastN s (clampN s at_)) := by
  have hks : clampN s at_ ≤ s.size := by rw [clampN]; omega
  have := place_loop s at_ hm s.size 0 (by omega) (Nat.zero_le _)
  rw [runnelref3_Place.f]
  refine Eq.trans ?_ this
  have h1 : feedsN s 0 = 0 := by simp [feedsN]
  have h2 : lastN s 0 = -1 := by rw [last_is s 0 (Nat.zero_le _)]; rfl
  rw [h1, h2]
  rfl
end Go.Proofs.YtjlcbhlpibgplaaDoor.P
