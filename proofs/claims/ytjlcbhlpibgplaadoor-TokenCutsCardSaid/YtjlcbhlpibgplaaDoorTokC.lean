/- token: Kept, Ident. -/
import Derived.Test.YtjlcbhlpibgplaaDoorTokB
import Derived.WalkSmall
namespace Go.Proofs.YtjlcbhlpibgplaaDoor.P
open Go.RowKit Go.Proofs.YtjlcbhlpibgplaaDoorW.PrintWords Go.Proofs.YtjlcbhlpibgplaaDoorW.PrintLast Go.Proofs.YtjlcbhlpibgplaaDoorW.PrintMore
set_option linter.unusedVariables false
set_option linter.unusedSimpArgs false
/-- What the library's variables hold. -/
def Env (w : World) : Prop := (∃ m, w.cell? ⟨0, 0, none⟩ = some (.int .i64 m)) ∧ (∃ ev, w.cell? ⟨1, 0, none⟩ = some ev ∧ (ev = .nilIface ∨ ∃ te pe, ev = .iface te pe)) ∧ (∃ ev, w.cell? ⟨2, 0, none⟩ = some ev ∧ (ev = .nilIface ∨ ∃ te pe, ev = .iface te pe)) ∧ Lib.TabIs Tryd.prog w "internal/strconv.uint64pow10" .u64 Lib.pow10Tab ∧ 6 ≤ w.heap.size
theorem Env.below {w w' : World} (h : Env w) {n : Nat} (hb : Below n w w') (hn : 6 ≤ n) : Env w' := by
  obtain ⟨⟨m, h0⟩, ⟨e1, h1, k1⟩, ⟨e2, h2, k2⟩, h3, h4⟩ := h
  exact ⟨⟨m, (hb.cell (p := ⟨0, 0, none⟩) (by show 0 < n; omega)).trans h0⟩, ⟨e1, (hb.cell (p := ⟨1, 0, none⟩) (by show 1 < n; omega)).trans h1, k1⟩, ⟨e2, (hb.cell (p := ⟨2, 0, none⟩) (by show 2 < n; omega)).trans h2, k2⟩, var?_below hb (g := 3) (by kernel_rfl) (by omega) h3, Nat.le_trans h4 hb.size⟩
theorem Env.six {w : World} (h : Env w) : 6 ≤ w.heap.size := h.2.2.2.2
theorem contains_any (s sub : ByteArray) (hs : s.size < 4294967281) (w : World) (hE : Env w) : Calls Tryd.prog 31 #[.string s, .string sub] w fun e w' => e = .returned (.bool (Lib.contains s.data.toList sub.data.toList)) ∧ w = w' := by
  obtain ⟨m, hm⟩ := hE.1
  exact (Tryd.strings_Contains s sub m w hs hm).mono fun e w' ⟨he, hw⟩ => ⟨he, hw.symm⟩
theorem toList_nil (s : ByteArray) (h : s.size = 0) : s.toList = [] := by
  have e : s = ByteArray.empty := by
    apply ByteArray.ext
    exact Array.eq_empty_of_size_eq_zero h
  rw [e]
  exact ByteArray.toList_empty
theorem toList_ne (a : ByteArray) (h : 0 < a.size) : a.toList ≠ [] := by
  unfold ByteArray.toList ByteArray.toList.loop
  rw [if_pos h]
  have : ∀ n i r, r ≠ [] → a.size - i = n → ByteArray.toList.loop a i r ≠ [] := by
    intro n
    induction n with
    | zero => intro i r hr hi; unfold ByteArray.toList.loop; rw [if_neg (by omega)]; simpa using hr
    | succ n ih => intro i r hr hi; unfold ByteArray.toList.loop; split; exact ih _ _ (by simp) (by omega); simpa using hr
  exact this _ _ _ (by simp) rfl
def keptText : ByteArray := ⟨#[32, 118, 97, 114, 32, 112, 114, 111, 99, 32, 105, 110, 116, 32, 98, 111, 111, 108, 32, 97, 114, 114, 32, 102, 117, 110, 32, 105, 110, 32, 111, 117, 116, 32, 105, 102, 32, 101, 108, 115, 101, 32, 119, 104, 105, 108, 101, 32, 99, 97, 108, 108, 32, 114, 101, 116, 117, 114, 110, 32, 116, 104, 114, 111, 119, 32, 116, 114, 121, 32, 99, 97, 116, 99, 104, 32, 110, 101, 119, 32, 108, 101, 110, 32, 116, 114, 117, 101, 32, 102, 97, 108, 115, 101, 32]⟩
def pairsT : ByteArray := ⟨#[32, 61, 61, 32, 33, 61, 32, 60, 61, 32, 62, 61, 32, 38, 38, 32, 124, 124, 32]⟩
def singleT : ByteArray := ⟨#[40, 41, 123, 125, 91, 93, 44, 59, 61, 60, 62, 43, 45, 42, 47, 37, 33, 38]⟩
def digitsT : ByteArray := ⟨#[48, 49, 50, 51, 52, 53, 54, 55, 56, 57]⟩
def partsT : ByteArray := ⟨#[97, 98, 99, 100, 101, 102, 103, 104, 105, 106, 107, 108, 109, 110, 111, 112, 113, 114, 115, 116, 117, 118, 119, 120, 121, 122, 65, 66, 67, 68, 69, 70, 71, 72, 73, 74, 75, 76, 77, 78, 79, 80, 81, 82, 83, 84, 85, 86, 87, 88, 89, 90, 95, 48, 49, 50, 51, 52, 53, 54, 55, 56, 57]⟩
/-- A text between blanks. -/
def spaced (s : ByteArray) : ByteArray := ⟨#[32]⟩ ++ s ++ ⟨#[32]⟩
/-- Kept: a word that the language keeps. -/
def keptB (s : ByteArray) : Bool := decide (s.size ≠ 0) && !hasB s 32 && Lib.contains keptText.data.toList (spaced s).data.toList
theorem idx_32 (s : ByteArray) (w : World) : Calls Tryd.prog 24 #[.string s, .int .u8 32] w fun e w' => ∃ v : Int, e = .returned (.int .i64 v) ∧ Hid (decide (v < 0) = !hasB s 32) ∧ w = w' :=
  (idx_any s 32 w).mono fun e w' ⟨v, he, hv, hw⟩ => ⟨v, he, Lib.hid (by
    rw [← hv.out, Bool.eq_iff_iff]; simp), hw⟩
theorem idx_not (sm : ByteArray) (c : UInt8) (w : World) : Calls Tryd.prog 24 #[.string sm, .int .u8 (c.toNat : Int)] w fun e w' => ∃ v : Int, e = .returned (.int .i64 v) ∧ Hid (decide (v < 0) = !hasB sm c) ∧ w = w' :=
  (idx_any sm c w).mono fun e w' ⟨v, he, hv, hw⟩ => ⟨v, he, Lib.hid (by
    rw [← hv.out, Bool.eq_iff_iff]; simp), hw⟩
set_option maxRecDepth 100000 in
set_option maxHeartbeats 4000000 in
theorem kept_is (s : ByteArray) (r : Bool) (hr : keptB s = r) (hsz : s.size ≤ 1000000) (w : World) (hE : Env w) :
    Calls Tryd.prog 15 #[.string s] w fun e w' => e = .returned (.bool r) ∧ w = w' := by
  have HE := Lib.hid hE
  have HR := Lib.hid hr
  clear hE hr
  by_cases h0 : s.size = 0
  · have h1 := toList_nil s h0
    have HF : Hid (false = r) := Lib.hid (by rw [← HR.out]; simp [keptB, h0])
    clear h0
    go_enter Tryd.func15, Tryd.ntmps15
    go_wp2_with fail
    go_ret
    exact ⟨by rw [← HF.out]; rfl, rfl⟩
  · have h1 := toList_ne s (by omega)
    have h2 : s.toList.isEmpty = false := by simpa using h1
    cases hb : hasB s 32 with
    | true =>
      have HF : Hid (false = r) := Lib.hid (by rw [← HR.out]; simp [keptB, hb])
      have HB := Lib.hid hb
      clear hb
      go_enter Tryd.func15, Tryd.ntmps15
      go_wp2_with fail
      refine (idx_32 s _).mono ?_
      rintro e_ w1 ⟨v, rfl, HV, rfl⟩
      have t1 : decide (v < 0) = false := by rw [HV.out, HB.out]; rfl
      go_wp2_with fail
      go_ret
      exact ⟨by rw [← HF.out]; rfl, rfl⟩
    | false =>
      have HF : Hid (Lib.contains keptText.data.toList (spaced s).data.toList = r) := Lib.hid (by rw [← HR.out]; simp [keptB, hb, h0])
      have HB := Lib.hid hb
      clear hb
      go_enter Tryd.func15, Tryd.ntmps15
      go_wp2_with fail
      refine (idx_32 s _).mono ?_
      rintro e_ w1 ⟨v, rfl, HV, rfl⟩
      have t1 : decide (v < 0) = true := by rw [HV.out, HB.out]; rfl
      go_wp2_with fail
      refine (contains_any keptText (spaced s) (by decide) _ HE.out).mono ?_
      rintro e_ w1 ⟨rfl, rfl⟩
      rw [HF.out]
      go_wp2_with fail
      go_ret
      exact ⟨rfl, rfl⟩
/-- Ident: a name. -/
def identB (s : ByteArray) : Bool := decide (s.size ≠ 0) && decide (s.size ≤ 20) && onlyB partsT s && !hasB digitsT (s.data.getD 0 0) && !keptB s
theorem first_at (s : ByteArray) (h : 0 < s.size) : s[0] = s.data.getD 0 0 := by
  have h2 : 0 < s.data.size := h
  rw [ByteArray.getElem_eq_getElem_data, Array.getD_eq_getD_getElem?, Array.getElem?_eq_getElem h2]
  rfl
set_option maxRecDepth 100000 in
set_option maxHeartbeats 8000000 in
theorem ident_is (s : ByteArray) (r : Bool) (hr : identB s = r) (hsz : s.size ≤ 1000000) (w : World) (hE : Env w) :
    Calls Tryd.prog 16 #[.string s] w fun e w' => e = .returned (.bool r) ∧ Below w.heap.size w w' := by
  have HE := Lib.hid hE
  have HR := Lib.hid hr
  clear hE hr
  by_cases h0 : s.size = 0
  · have h1 := toList_nil s h0
    have HF : Hid (false = r) := Lib.hid (by rw [← HR.out]; simp [identB, h0])
    clear h0
    go_enter Tryd.func16, Tryd.ntmps16
    go_wp2_with fail
    go_ret
    exact ⟨by rw [← HF.out]; rfl, Below.refl _ _⟩
  · have h1 := toList_ne s (by omega)
    have h2 : s.toList.isEmpty = false := by simpa using h1
    have hpos : 0 < s.size := by omega
    by_cases h20 : s.size ≤ 20
    · have t1 : decide ((s.size : Int) ≤ 20) = true := decide_eq_true (by omega)
      cases ho : onlyB partsT s with
      | false =>
        have HF : Hid (false = r) := Lib.hid (by rw [← HR.out]; simp [identB, ho])
        have HO := Lib.hid ho
        clear ho
        go_enter Tryd.func16, Tryd.ntmps16
        go_wp2_with fail
        refine (only_any partsT s hsz _).mono ?_
        rintro e_ w1 ⟨rfl, hb_⟩
        rw [HO.out]
        have HB := Lib.hid hb_
        clear hb_
        go_wp2_with fail
        go_ret
        exact ⟨by rw [← HF.out]; rfl, HB.out⟩
      | true =>
        have HO := Lib.hid ho
        clear ho
        cases hd : hasB digitsT s[0] with
        | true =>
          have HF : Hid (false = r) := Lib.hid (by rw [← HR.out]; simp [identB, ← first_at s hpos, hd])
          have HD := Lib.hid hd
          clear hd
          go_enter Tryd.func16, Tryd.ntmps16
          go_wp2_with fail
          refine (only_any partsT s hsz _).mono ?_
          rintro e_ w1 ⟨rfl, hb_⟩
          rw [HO.out]
          have HB := Lib.hid hb_
          clear hb_
          go_wp2_with fail
          refine (idx_not digitsT s[0] _).mono ?_
          rintro e_ w1 ⟨v, rfl, HV, rfl⟩
          have t2 : decide (v < 0) = false := by rw [HV.out, HD.out]; rfl
          go_wp2_with fail
          go_ret
          exact ⟨by rw [← HF.out]; rfl, HB.out⟩
        | false =>
          obtain ⟨kp, hk⟩ : ∃ kp, keptB s = kp := ⟨_, rfl⟩
          have HF : Hid ((!kp) = r) := Lib.hid (by rw [← HR.out]; simp [identB, ← first_at s hpos, hd, HO.out, h0, h20, hk])
          have HD := Lib.hid hd
          have HK := Lib.hid hk
          clear hd hk
          go_enter Tryd.func16, Tryd.ntmps16
          go_wp2_with fail
          refine (only_any partsT s hsz _).mono ?_
          rintro e_ w1 ⟨rfl, hb_⟩
          rw [HO.out]
          have HB := Lib.hid hb_
          clear hb_
          go_wp2_with fail
          refine (idx_not digitsT s[0] _).mono ?_
          rintro e_ w1 ⟨v, rfl, HV, rfl⟩
          have t2 : decide (v < 0) = true := by rw [HV.out, HD.out]; rfl
          go_wp2_with fail
          refine (kept_is s kp HK.out hsz _ (HE.out.below HB.out HE.out.six)).mono ?_
          rintro e_ w1 ⟨rfl, rfl⟩
          go_wp2_with fail
          go_ret
          exact ⟨by rw [← HF.out]; rfl, HB.out⟩
    · have t1 : decide ((s.size : Int) ≤ 20) = false := decide_eq_false (by omega)
      have HF : Hid (false = r) := Lib.hid (by rw [← HR.out]; simp [identB, h20])
      go_enter Tryd.func16, Tryd.ntmps16
      go_wp2_with fail
      go_ret
      exact ⟨by rw [← HF.out]; rfl, Below.refl _ _⟩
end Go.Proofs.YtjlcbhlpibgplaaDoor.P
