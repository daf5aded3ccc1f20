/- token: sign. -/
import Derived.Test.YtjlcbhlpibgplaaDoorTokC
namespace Go.Proofs.YtjlcbhlpibgplaaDoor.P
open Go.RowKit Go.Proofs.YtjlcbhlpibgplaaDoorW.PrintWords Go.Proofs.YtjlcbhlpibgplaaDoorW.PrintLast Go.Proofs.YtjlcbhlpibgplaaDoorW.PrintMore
set_option linter.unusedVariables false
set_option linter.unusedSimpArgs false
/-- Do two signs stand ahead that are one together? -/
def pairB (s : ByteArray) : Bool := decide (1 < s.size) && !(s.data.getD 0 0 == 32) && !(s.data.getD 1 0 == 32) && Lib.contains pairsT.data.toList (spaced (s.extract 0 2)).data.toList
/-- How long the sign is that a text begins with. -/
def signN (s : ByteArray) : Nat := if pairB s = true then 2 else if hasB singleT (s.data.getD 0 0) = true then 1 else 0
theorem at_one (s : ByteArray) (h : 1 < s.size) : s[1] = s.data.getD 1 0 := by
  have h2 : 1 < s.data.size := h
  rw [ByteArray.getElem_eq_getElem_data, Array.getD_eq_getD_getElem?, Array.getElem?_eq_getElem h2]
  rfl
theorem signN_one (s : ByteArray) (h : 0 < s.size) (hp : pairB s = false) : signN s = if hasB singleT s[0] = true then 1 else 0 := by
  unfold signN
  rw [hp, first_at s h]
  rfl
theorem u8_nat (c : UInt8) (h : ¬ c = 32) : ¬ (c.toNat : Int) = 32 := fun e => h (UInt8.toNat_inj.1 (by
  have : (32 : UInt8).toNat = 32 := rfl
  omega))
theorem space_no : hasB singleT 32 = false := by decide
theorem idx_sp (sm : ByteArray) (w : World) : Calls Tryd.prog 24 #[.string sm, .int .u8 32] w fun e w' => ∃ v : Int, e = .returned (.int .i64 v) ∧ Hid (decide (0 ≤ v) = hasB sm 32) ∧ w = w' := idx_any sm 32 w
set_option maxRecDepth 100000 in
set_option maxHeartbeats 8000000 in
theorem sign_is (s : ByteArray) (r : Nat) (hr : signN s = r) (h0 : 0 < s.size) (hsz : s.size ≤ 1000000) (w : World) (hE : Env w) :
    Calls Tryd.prog 26 #[.string s] w fun e w' => e = .returned (.int .i64 (r : Nat)) ∧ w = w' := by
  have HE := Lib.hid hE
  have HR0 := Lib.hid hr
  clear hE hr
  cases hp : pairB s with
  | true =>
    have HF : Hid (2 = r) := Lib.hid (by rw [← HR0.out, signN, if_pos hp])
    have hh := hp
    unfold pairB at hh
    simp only [Bool.and_eq_true, decide_eq_true_eq, Bool.not_eq_true', beq_eq_false_iff_ne, ne_eq] at hh
    obtain ⟨⟨⟨h1, h2⟩, h3⟩, h4⟩ := hh
    have HP := Lib.hid h4
    rw [← first_at s h0] at h2
    rw [← at_one s h1] at h3
    have t1 : decide ((1 : Int) < (s.size : Int)) = true := decide_eq_true (by omega)
    have t2 : ((s[0].toNat : Int) != 32) = true := bne_iff_ne.2 (u8_nat _ h2)
    have t3 : ((s[1].toNat : Int) != 32) = true := bne_iff_ne.2 (u8_nat _ h3)
    have t4 : (1 : Int) < (s.size : Int) := by omega
    have t5 : (2 : Int) ≤ (s.size : Int) := by omega
    clear h2 h3 h4 hp
    go_enter Tryd.func26, Tryd.ntmps26
    go_wp2_with fail
    refine (contains_any pairsT (spaced (s.extract 0 2)) (by decide) _ HE.out).mono ?_
    rintro e_ w1 ⟨rfl, rfl⟩
    rw [HP.out]
    go_wp2_with fail
    go_ret
    exact ⟨by rw [← HF.out]; rfl, rfl⟩
  | false =>
    have HR : Hid ((if hasB singleT s[0] = true then 1 else 0) = r) := Lib.hid (by rw [← HR0.out, signN_one s h0 hp])
    have hh := hp
    unfold pairB at hh
    by_cases h1 : 1 < s.size
    · have t1 : decide ((1 : Int) < (s.size : Int)) = true := decide_eq_true (by omega)
      have t4 : (1 : Int) < (s.size : Int) := by omega
      by_cases h2 : s[0] = 32
      · have HF : Hid (0 = r) := Lib.hid (by rw [← HR.out, h2, space_no]; rfl)
        have t2 : (s[0].toNat : Int) = 32 := by rw [h2]; rfl
        clear h2 hh hp
        go_enter Tryd.func26, Tryd.ntmps26
        go_wp2_with fail
        refine (idx_sp singleT _).mono ?_
        rintro e_ w1 ⟨v, rfl, HV, rfl⟩
        have t9 : decide (0 ≤ v) = false := by rw [HV.out]; exact space_no
        go_wp2_with fail
        go_ret
        exact ⟨by rw [← HF.out]; rfl, rfl⟩
      · have t2 : ((s[0].toNat : Int) != 32) = true := bne_iff_ne.2 (u8_nat _ h2)
        by_cases h3 : s[1] = 32
        · have t3 : (s[1].toNat : Int) = 32 := by rw [h3]; rfl
          clear h2 h3 hh hp
          cases hb : hasB singleT s[0] with
          | true =>
            have HF : Hid (1 = r) := Lib.hid (by rw [← HR.out]; simp [hb])
            have HB := Lib.hid hb
            clear hb
            go_enter Tryd.func26, Tryd.ntmps26
            go_wp2_with fail
            refine (idx_any singleT s[0] _).mono ?_
            rintro e_ w1 ⟨v, rfl, HV, rfl⟩
            have t9 : decide (0 ≤ v) = true := by rw [HV.out]; exact HB.out
            go_wp2_with fail
            go_ret
            exact ⟨by rw [← HF.out]; rfl, rfl⟩
          | false =>
            have HF : Hid (0 = r) := Lib.hid (by rw [← HR.out]; simp [hb])
            have HB := Lib.hid hb
            clear hb
            go_enter Tryd.func26, Tryd.ntmps26
            go_wp2_with fail
            refine (idx_any singleT s[0] _).mono ?_
            rintro e_ w1 ⟨v, rfl, HV, rfl⟩
            have t9 : decide (0 ≤ v) = false := by rw [HV.out]; exact HB.out
            go_wp2_with fail
            go_ret
            exact ⟨by rw [← HF.out]; rfl, rfl⟩
        · have t3 : ((s[1].toNat : Int) != 32) = true := bne_iff_ne.2 (u8_nat _ h3)
          have t5 : (2 : Int) ≤ (s.size : Int) := by omega
          have HP : Hid (Lib.contains pairsT.data.toList (spaced (s.extract 0 2)).data.toList = false) := Lib.hid (by
            rw [← first_at s h0, ← at_one s h1] at hh
            simpa [h1, h2, h3] using hh)
          clear h2 h3 hh hp
          cases hb : hasB singleT s[0] with
          | true =>
            have HF : Hid (1 = r) := Lib.hid (by rw [← HR.out]; simp [hb])
            have HB := Lib.hid hb
            clear hb
            go_enter Tryd.func26, Tryd.ntmps26
            go_wp2_with fail
            refine (contains_any pairsT (spaced (s.extract 0 2)) (by decide) _ HE.out).mono ?_
            rintro e_ w1 ⟨rfl, rfl⟩
            rw [HP.out]
            go_wp2_with fail
            refine (idx_any singleT s[0] _).mono ?_
            rintro e_ w1 ⟨v, rfl, HV, rfl⟩
            have t9 : decide (0 ≤ v) = true := by rw [HV.out]; exact HB.out
            go_wp2_with fail
            go_ret
            exact ⟨by rw [← HF.out]; rfl, rfl⟩
          | false =>
            have HF : Hid (0 = r) := Lib.hid (by rw [← HR.out]; simp [hb])
            have HB := Lib.hid hb
            clear hb
            go_enter Tryd.func26, Tryd.ntmps26
            go_wp2_with fail
            refine (contains_any pairsT (spaced (s.extract 0 2)) (by decide) _ HE.out).mono ?_
            rintro e_ w1 ⟨rfl, rfl⟩
            rw [HP.out]
            go_wp2_with fail
            refine (idx_any singleT s[0] _).mono ?_
            rintro e_ w1 ⟨v, rfl, HV, rfl⟩
            have t9 : decide (0 ≤ v) = false := by rw [HV.out]; exact HB.out
            go_wp2_with fail
            go_ret
            exact ⟨by rw [← HF.out]; rfl, rfl⟩
    · have t1 : decide ((1 : Int) < (s.size : Int)) = false := decide_eq_false (by omega)
      clear hh hp
      cases hb : hasB singleT s[0] with
      | true =>
        have HF : Hid (1 = r) := Lib.hid (by rw [← HR.out]; simp [hb])
        have HB := Lib.hid hb
        clear hb
        go_enter Tryd.func26, Tryd.ntmps26
        go_wp2_with fail
        refine (idx_any singleT s[0] _).mono ?_
        rintro e_ w1 ⟨v, rfl, HV, rfl⟩
        have t9 : decide (0 ≤ v) = true := by rw [HV.out]; exact HB.out
        go_wp2_with fail
        go_ret
        exact ⟨by rw [← HF.out]; rfl, rfl⟩
      | false =>
        have HF : Hid (0 = r) := Lib.hid (by rw [← HR.out]; simp [hb])
        have HB := Lib.hid hb
        clear hb
        go_enter Tryd.func26, Tryd.ntmps26
        go_wp2_with fail
        refine (idx_any singleT s[0] _).mono ?_
        rintro e_ w1 ⟨v, rfl, HV, rfl⟩
        have t9 : decide (0 ≤ v) = false := by rw [HV.out]; exact HB.out
        go_wp2_with fail
        go_ret
        exact ⟨by rw [← HF.out]; rfl, rfl⟩
end Go.Proofs.YtjlcbhlpibgplaaDoor.P
