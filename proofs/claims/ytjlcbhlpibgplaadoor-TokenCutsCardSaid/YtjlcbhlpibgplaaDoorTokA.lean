/- token: what the walks use; the closure that goes over a row of bytes. -/
import Derived.Test.YtjlcbhlpibgplaaDoorP0
import Derived.Test.YtjlcbhlpibgplaaDoorShelf
import Derived.Lib.IndexAny
import Derived.Lib.Hide
import Derived.Outline
import Derived.BigQuiet
import Derived.LoopTactic
namespace Go.Proofs.YtjlcbhlpibgplaaDoor.P
open Go.RowKit Go.Proofs.YtjlcbhlpibgplaaDoorW.PrintWords Go.Proofs.YtjlcbhlpibgplaaDoorW.PrintLast Go.Proofs.YtjlcbhlpibgplaaDoorW.PrintMore
set_option linter.unusedVariables false
set_option linter.unusedSimpArgs false
/-- Is a byte one of some? -/
def hasB (sm : ByteArray) (c : UInt8) : Bool := sm.data.toList.contains c
theorem byte_back (c : UInt8) : ((c.toNat : Int)).toNat.toUInt8 = c := by
  rw [Int.toNat_natCast]
  exact UInt8.ofNat_toNat
theorem idx_any (sm : ByteArray) (c : UInt8) (w : World) : Calls Tryd.prog 24 #[.string sm, .int .u8 (c.toNat : Int)] w fun e w' => ∃ v : Int, e = .returned (.int .i64 v) ∧ Hid (decide (0 ≤ v) = hasB sm c) ∧ w = w' :=
  (Tryd.strings_IndexByte sm (c.toNat : Int) w).mono fun e w' ⟨he, hw⟩ => ⟨_, he, Lib.hid (by rw [byte_back, hasB, ← Lib.contains_iff_indexByte]), hw.symm⟩
/-- How far a row of bytes goes from i on. -/
def runTo (p : UInt8 → Bool) (s : ByteArray) (i : Nat) : Nat := i + ((s.data.toList.drop i).takeWhile p).length
theorem data_len (s : ByteArray) : s.data.toList.length = s.size := by rw [Array.length_toList]; rfl
theorem data_at (s : ByteArray) (i : Nat) (h : i < s.size) : s.data.toList[i]'(by rw [data_len]; exact h) = s[i] := by simp [ByteArray.getElem_eq_getElem_data]
theorem drop_at (s : ByteArray) (i : Nat) (h : i < s.size) : s.data.toList.drop i = s[i] :: s.data.toList.drop (i + 1) := by
  rw [List.drop_eq_getElem_cons (by rw [data_len]; exact h), data_at s i h]
theorem runTo_end (p : UInt8 → Bool) (s : ByteArray) (i : Nat) (h : s.size ≤ i) : runTo p s i = i := by
  unfold runTo
  rw [List.drop_of_length_le (by rw [data_len]; exact h)]
  rfl
theorem runTo_yes (p : UInt8 → Bool) (s : ByteArray) (i : Nat) (h : i < s.size) (hp : p s[i] = true) : runTo p s i = runTo p s (i + 1) := by
  unfold runTo
  rw [drop_at s i h, List.takeWhile_cons, if_pos hp, List.length_cons]
  omega
theorem runTo_no (p : UInt8 → Bool) (s : ByteArray) (i : Nat) (h : i < s.size) (hp : p s[i] = false) : runTo p s i = i := by
  unfold runTo
  rw [drop_at s i h, List.takeWhile_cons, if_neg (by simp [hp])]
  rfl
theorem runTo_ge (p : UInt8 → Bool) (s : ByteArray) (i : Nat) : i ≤ runTo p s i := Nat.le_add_right _ _
theorem runTo_le (p : UInt8 → Bool) (s : ByteArray) (i : Nat) (h : i ≤ s.size) : runTo p s i ≤ s.size := by
  unfold runTo
  have h1 := (List.takeWhile_sublist p (l := s.data.toList.drop i)).length_le
  rw [List.length_drop, data_len] at h1
  omega
set_option maxRecDepth 100000 in
set_option maxHeartbeats 4000000 in
theorem row_any (sm s : ByteArray) (gi gs : Nat) (i : Nat) (w : World) (hi : w.cell? ⟨gi, 0, none⟩ = some (.int .i64 i)) (hs : w.cell? ⟨gs, 0, none⟩ = some (.string s)) (hle : i ≤ s.size) (hsz : s.size ≤ 140737488351232) :
    Calls Tryd.prog 23 #[.string sm, .pointer (some ⟨gi, 0, none⟩), .pointer (some ⟨gs, 0, none⟩)] w fun e w' => e = .returned (.int .i64 (runTo (hasB sm) s i : Nat)) ∧ w = w' := by
  have hw0 := hi
  go_enter Tryd.func23, Tryd.ntmps23
  go_wp2_with fail
  go_loop [5] (fun k => ∃ k' : Nat, k = .int .i64 k' ∧ i ≤ k' ∧ k' ≤ s.size ∧ Hid (runTo (hasB sm) s i = runTo (hasB sm) s k')) (fun k => s.size - (intOf k).toNat)
  case atStart => exact ⟨i, rfl, Nat.le_refl _, hle, Lib.hid rfl⟩
  case round =>
    obtain ⟨k, rfl, hik, hk, HR⟩ := hrel
    by_cases hlt : k < s.size
    · cases hb : hasB sm s[k] with
      | true =>
        have hst := runTo_yes (hasB sm) s k hlt hb
        have HST := Lib.hid hst
        have HB := Lib.hid hb
        clear hst hb
        go_wp2_with fail
        refine (idx_any sm s[k] _).mono ?_
        rintro e_ w1 ⟨v, rfl, HV, rfl⟩
        have t1 : decide (0 ≤ v) = true := by rw [HV.out, HB.out]
        go_wp2_with fail
        go_round
        case rel => exact ⟨k + 1, by norm_cast, by omega, by omega, Lib.hid (by rw [HR.out, HST.out])⟩
        case measure => first | (simp [intOf]; done) | (simp [intOf]; omega)
      | false =>
        have hst := runTo_no (hasB sm) s k hlt hb
        have HST := Lib.hid hst
        have HB := Lib.hid hb
        clear hst hb
        go_wp2_with fail
        refine (idx_any sm s[k] _).mono ?_
        rintro e_ w1 ⟨v, rfl, HV, rfl⟩
        have t1 : decide (0 ≤ v) = false := by rw [HV.out, HB.out]
        go_wp2_with fail
        go_ret
        exact ⟨by rw [HR.out, HST.out]; rfl, rfl⟩
    · have hst := runTo_end (hasB sm) s k (by omega)
      have HST := Lib.hid hst
      clear hst
      go_wp2_with fail
      go_ret
      exact ⟨by rw [HR.out, HST.out]; rfl, rfl⟩
end Go.Proofs.YtjlcbhlpibgplaaDoor.P
