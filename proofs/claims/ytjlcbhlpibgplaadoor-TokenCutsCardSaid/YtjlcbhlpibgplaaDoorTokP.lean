/- token: Place. -/
import Derived.Test.YtjlcbhlpibgplaaDoorTokC
namespace Go.Proofs.YtjlcbhlpibgplaaDoor.P
open Go.RowKit Go.Proofs.YtjlcbhlpibgplaaDoorW.PrintWords Go.Proofs.YtjlcbhlpibgplaaDoorW.PrintLast Go.Proofs.YtjlcbhlpibgplaaDoorW.PrintMore
set_option linter.unusedVariables false
set_option linter.unusedSimpArgs false
/-- How many line feeds stand ahead of k. -/
def feedsN (s : ByteArray) (k : Nat) : Nat := (s.data.toList.take k).count 10
/-- The last line feed ahead of k, or -1. -/
def lastN (s : ByteArray) (k : Nat) : Int := Lib.lastIndexByte (s.extract 0 k) 10
theorem last_range (s : ByteArray) (k : Nat) (hk : k ≤ s.size) : -1 ≤ lastN s k ∧ lastN s k < k := by
  have h := Lib.lastIndexByte_spec (s.extract 0 k) 10
  have hz : (s.extract 0 k).size = k := by simp; omega
  rcases h with ⟨h, _⟩ | ⟨i, hi, h, _⟩
  · rw [lastN, h]; omega
  · rw [lastN, h]; omega
theorem extract_list (s : ByteArray) (k : Nat) : (s.extract 0 k).data.toList = s.data.toList.take k := by
  cases s with | mk a => simp
def clampN (s : ByteArray) (at_ : Int) : Nat := (min (max at_ 0) (s.size : Int)).toNat
set_option maxRecDepth 100000 in
set_option maxHeartbeats 8000000 in
theorem place_is (s : ByteArray) (at_ : Int) (hsz : s.size ≤ 1000000) (w : World) :
    Calls Tryd.prog 17 #[.string s, .int .i64 at_] w fun e w' => e = .returned (.tuple #[.int .i64 ((feedsN s (clampN s at_) : Int) + 1), .int .i64 ((clampN s at_ : Int) - lastN s (clampN s at_))]) ∧ w = w' := by
  obtain ⟨k, hk⟩ : ∃ k, k = clampN s at_ := ⟨_, rfl⟩
  rw [← hk]
  have hks : k ≤ s.size := by rw [hk, clampN]; omega
  have hl := last_range s k hks
  have hcnt : (s.extract 0 k).data.toList.count 10 = feedsN s k := by rw [extract_list]; rfl
  have hfe : feedsN s k ≤ 1000000 := by
    have := List.count_le_length (a := (10 : UInt8)) (l := s.data.toList.take k)
    rw [List.length_take, Array.length_toList] at this
    have h2 : s.data.size = s.size := rfl
    unfold feedsN
    omega
  have hez : (s.extract 0 k).size = k := by simp; omega
  obtain ⟨f, hf⟩ : ∃ f, f = feedsN s k := ⟨_, rfl⟩
  obtain ⟨g, hg⟩ : ∃ g, g = lastN s k := ⟨_, rfl⟩
  rw [← hf] at hcnt hfe ⊢
  rw [← hg] at hl ⊢
  have HL : Hid (Lib.lastIndexByte (s.extract 0 k) 10 = g) := Lib.hid hg.symm
  have HC : Hid ((Lib.countByte (s.extract 0 k).data.toList 10 : Int) = f) := Lib.hid (by rw [Lib.countByte, hcnt])
  have hm : min (max at_ 0) (s.size : Int) = (k : Int) := by rw [hk, clampN]; omega
  have HM := Lib.hid hm
  have wr1 : IntKind.i64.wrap ((f : Int) + 1) = (f : Int) + 1 := by rw [i64_w]; unfold wrap64; omega
  have wr2 : IntKind.i64.wrap ((k : Int) - g) = (k : Int) - g := by rw [i64_w]; unfold wrap64; omega
  clear hk hcnt hf hg hm
  go_enter Tryd.func17, Tryd.ntmps17
  go_wp2_with fail
  rw [HM.out, Int.toNat_natCast]
  refine (Tryd.strings_Count_one (s.extract 0 k) 10 w).mono ?_
  rintro e_ w1 ⟨rfl, rfl⟩
  rw [HC.out]
  go_wp2_with fail
  refine (Tryd.strings_LastIndexByte (s.extract 0 k) 10 (by omega) _).mono ?_
  rintro e_ w1 ⟨rfl, rfl⟩
  rw [HL.out]
  go_wp2_with fail
  go_ret2
  exact ⟨rfl, rfl⟩
end Go.Proofs.YtjlcbhlpibgplaaDoor.P
