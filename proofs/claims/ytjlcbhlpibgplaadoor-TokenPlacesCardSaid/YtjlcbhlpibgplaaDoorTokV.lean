/- TokenPlaces: every text. -/
import Derived.Test.YtjlcbhlpibgplaaDoorTokT
import Derived.Test.YtjlcbhlpibgplaaDoorTokG
namespace Go.Proofs.YtjlcbhlpibgplaaDoor.P
open Go.RowKit Go.Proofs.YtjlcbhlpibgplaaDoorW.PrintWords Go.Proofs.YtjlcbhlpibgplaaDoorW.PrintLast Go.Proofs.YtjlcbhlpibgplaaDoorW.PrintMore
set_option linter.unusedVariables false
set_option linter.unusedSimpArgs false
/-- Where the loop stands. -/
def PlRel (w : World) (s : ByteArray) (ts : List S30) (A : Option Addr) (n : Nat) (v7 v8 : Value) (w' : World) : Prop :=
  ∃ i at_ : Nat, v8 = .int .i64 i ∧ v7 = .int .i64 at_ ∧ i ≤ ts.length ∧ i + n = ts.length + 1 ∧ Hid (Chain s at_ (ts.drop i)) ∧ Hid (Kd.C k30 w' A ts.length ts) ∧ Hid (Below w.heap.size w w')
set_option maxRecDepth 100000 in
set_option maxHeartbeats 8000000 in
theorem places_0 (s : ByteArray) (hs : s.size ≤ 2000) (n : Nat) (hcs : cutR s = ([], (n : Int), 2)) (w : World) (hE : Env w) :
    Calls Tryd.prog 4 #[.string s] w fun e_ w' => e_ = .returned (.bool true) ∧ Below w.heap.size w w' := by
  have HE := Lib.hid hE
  clear hE
  have HS := Lib.hid hcs
  clear hcs
  have t1 : decide ((2000 : Int) < (s.size : Int)) = false := by simp; omega
  have t2 : decide (2000 < s.size) = false := by simp; omega
  go_enter Tryd.func4, Tryd.ntmps4
  go_wp2_with fail
  refine (shown_is w HE.out).mono ?_
  rintro e_ w1 ⟨rfl, hb_⟩
  have HB1 : Hid (Below w.heap.size w w1) := Lib.hid hb_
  clear hb_
  go_wp2_with fail
  refine (cut_to HS.out w1 (HE.out.below HB1.out HE.out.six)).mono ?_
  rintro e_ w2 ⟨A1, c1, rfl, hc1, hC1, hb_⟩
  have HB2 : Hid (Below w.heap.size w w2) := Lib.hid (below_step HB1.out hb_)
  clear hb_ HB1
  go_wp2_with fail
  go_ret
  exact ⟨rfl, HB2.out⟩
set_option maxRecDepth 100000 in
set_option maxHeartbeats 8000000 in
theorem places_1 (s : ByteArray) (hs : s.size ≤ 2000) (ts : List S30) (hlen : ts.length ≤ 2001) (hch : Chain s 0 ts) (hcs : cutR s = (ts, 0, 0)) (w : World) (hE : Env w) :
    Calls Tryd.prog 4 #[.string s] w fun e_ w' => e_ = .returned (.bool true) ∧ Below w.heap.size w w' := by
  have HCH := Lib.hid hch
  clear hch
  have HE := Lib.hid hE
  clear hE
  have HS := Lib.hid hcs
  clear hcs
  have t1 : decide ((2000 : Int) < (s.size : Int)) = false := by simp; omega
  have t2 : decide (2000 < s.size) = false := by simp; omega
  go_enter Tryd.func4, Tryd.ntmps4
  go_wp2_with fail
  refine (shown_is w HE.out).mono ?_
  rintro e_ w1 ⟨rfl, hb_⟩
  have HB1 : Hid (Below w.heap.size w w1) := Lib.hid hb_
  clear hb_
  go_wp2_with fail
  refine (cut_to HS.out w1 (HE.out.below HB1.out HE.out.six)).mono ?_
  rintro e_ w2 ⟨A1, c1, rfl, hc1, hC1, hb_⟩
  have HB2 : Hid (Below w.heap.size w w2) := Lib.hid (below_step HB1.out hb_)
  clear hb_ HB1
  go_wp2_with fail
  go_loopg [7, 8] (ts.length + 1) (fun kq v7 v8 w' => PlRel w s ts A1 kq v7 v8 w')
  case atStart => exact ⟨0, 0, rfl, rfl, Nat.zero_le _, by omega, HCH, hC1, HB2⟩
  case round =>
    obtain ⟨i, at_, rfl, rfl, hi, hn_, HC, HR, HB⟩ := hrel
    have HN := Lib.hid hn_
    clear hn_
    clear HCH hC1 HB2
    by_cases hlt : i < ts.length
    · have hd : ts.drop i = rd_T30 ts (i : Int) :: ts.drop (i + 1) := by rw [rd_at ts i hlt, List.drop_eq_getElem_cons hlt]
      have hch := HC.out
      rw [hd] at hch
      obtain ⟨ad, hA, z0, z1, z2, z3⟩ := at_T30 HR.out (i : Int) (by omega) (by omega)
      rw [Int.toNat_natCast] at z0 z1 z2 z3
      have p1 := eq_true (show (0 : Int) ≤ (i : Int) by omega)
      have p2 := eq_true (show (i : Int) < (ts.length : Int) by omega)
      obtain ⟨t, ht⟩ : ∃ t, t = rd_T30 ts (i : Int) := ⟨_, rfl⟩
      rw [← ht] at hch z0 z1 z2 z3
      obtain ⟨k0, v1, pv, tx⟩ := t
      obtain ⟨p, h2, h3, h4, h5, h6, h7, ⟨g, h8⟩, h9⟩ := hch
      obtain rfl : pv = (p : Int) := h2
      replace h4 : p + tx.size ≤ s.size := h4
      replace h5 : s.extract p (p + tx.size) = tx := h5
      replace h6 : k0 = 5 ↔ ts.drop (i + 1) = [] := h6
      replace h7 : tx.size = 0 ↔ ts.drop (i + 1) = [] := h7
      have H9 : Hid (Chain s (p + tx.size) (ts.drop (i + 1))) := Lib.hid h9
      have H8 := Lib.hid h8
      have hr : ts.drop (i + 1) = [] ↔ i + 1 = ts.length := by rw [List.drop_eq_nil_iff]; omega
      have HA := Lib.hid hA
      clear hd ht h8 h9 hA
      have q1 : decide ((p : Int) < (at_ : Int)) = false := by simp; omega
      have q1n : decide (p < at_) = false := by simp; omega
      have q2n : decide (s.size < p + tx.size) = false := by simp; omega
      have wr : IntKind.i64.wrap ((p : Int) + (tx.size : Int)) = (p : Int) + tx.size := by rw [i64_w]; unfold wrap64; omega
      have q2 : decide ((s.size : Int) < (p : Int) + tx.size) = false := decide_eq_false (by omega)
      have e1 : ((p : Int) + (tx.size : Int)).toNat = p + tx.size := by omega
      have b4 : (at_ : Int) ≤ (p : Int) := by omega
      have b5 : (p : Int) ≤ (s.size : Int) := by omega
      have b6 : p ≤ s.size := by omega
      have b1 : (0 : Int) ≤ (p : Int) + tx.size := by omega
      have b2 : (p : Int) ≤ (p : Int) + tx.size := by omega
      have b3 : (p : Int) + tx.size ≤ s.size := by omega
      obtain rfl := HA.out
      by_cases hl : i + 1 = ts.length
      · have hn := hr.2 hl
        obtain rfl : k0 = 5 := h6.2 hn
        have q3 : tx.toList = [] := toList_nil tx (h7.2 hn)
        have q4 : ((i : Int) == (ts.length : Int) - 1) = true := by simp; omega
        have HL := Lib.hid hl
        clear h6 h7 hr hn hl
        go_wp2_with fail
        go_quiet (fail)
        go_wp2_with fail
        go_quiet (fail)
        go_wp2_with fail
        refine (cut_to H8.out _ (HE.out.below (pw_below_drewN HB.out _) HE.out.six)).mono ?_
        rintro e_ w5 ⟨A5, c5, rfl, hc5, hC5, hb_⟩
        have HB5 : Hid (Below w.heap.size w w5) := Lib.hid (below_step (pw_below_drewN HB.out _) hb_)
        have HR5 : Hid (Kd.C k30 w5 (some ad) ts.length ts) := Lib.hid (Kd.C_below (Kd.C_drewN HR.out _) hb_)
        clear hb_ hC5
        go_wp2_with fail
        go_roundg (gk - 1)
        case measure => have := HN.out; omega
        case rel => exact ⟨i + 1, p + tx.size, by norm_cast, by norm_cast, hlt, by have := HN.out; omega, H9, HR5, HB5⟩
      · have hn : ¬ ts.drop (i + 1) = [] := fun e => hl (hr.1 e)
        have q5 : (k0 == 5) = false := beq_eq_false_iff_ne.2 (fun e => hn (h6.1 e))
        have hz : tx.size ≠ 0 := fun e => hn (h7.1 e)
        have q3 : tx.toList ≠ [] := toList_ne tx (by omega)
        have q6 : tx.toList.isEmpty = false := by simpa using q3
        have q7 : (tx.toList == []) = false := by simpa using q3
        have q4 : ((i : Int) == (ts.length : Int) - 1) = false := by simp; omega
        have HL := Lib.hid hl
        clear h6 h7 hr hn hl hz
        go_wp2_with fail
        go_quiet (fail)
        go_wp2_with fail
        go_quiet (fail)
        go_wp2_with fail
        refine (cut_to H8.out _ (HE.out.below (pw_below_drewN HB.out _) HE.out.six)).mono ?_
        rintro e_ w5 ⟨A5, c5, rfl, hc5, hC5, hb_⟩
        have HB5 : Hid (Below w.heap.size w w5) := Lib.hid (below_step (pw_below_drewN HB.out _) hb_)
        have HR5 : Hid (Kd.C k30 w5 (some ad) ts.length ts) := Lib.hid (Kd.C_below (Kd.C_drewN HR.out _) hb_)
        clear hb_ hC5
        go_wp2_with fail
        go_roundg (gk - 1)
        case measure => have := HN.out; omega
        case rel => exact ⟨i + 1, p + tx.size, by norm_cast, by norm_cast, hlt, by have := HN.out; omega, H9, HR5, HB5⟩
    · have hc := HC.out
      rw [List.drop_of_length_le (by omega)] at hc
      obtain rfl : at_ = s.size := hc
      go_wp2_with fail
      go_ret
      exact ⟨rfl, HB.out⟩
set_option maxRecDepth 100000 in
set_option maxHeartbeats 4000000 in
theorem tokenPlaces_any (s : ByteArray) (w : World) (hE : Env w) : Calls Tryd.prog 4 #[.string s] w fun e w' => e = .returned (.bool true) ∧ Below w.heap.size w w' := by
  by_cases hs : s.size ≤ 2000
  · rcases places_cases s hs with ⟨n, h⟩ | ⟨ts, h, h1, h2⟩
    · exact places_0 s hs n h w hE
    · exact places_1 s hs ts h1 h2 h w hE
  · have HE := Lib.hid hE
    clear hE
    have t1 : decide ((2000 : Int) < (s.size : Int)) = true := by simp; omega
    have t2 : decide (2000 < s.size) = true := by simp; omega
    go_enter Tryd.func4, Tryd.ntmps4
    go_wp2_with fail
    refine (shown_is w HE.out).mono ?_
    rintro e_ w1 ⟨rfl, hb_⟩
    have HB1 : Hid (Below w.heap.size w w1) := Lib.hid hb_
    clear hb_
    go_wp2_with fail
    go_ret
    exact ⟨rfl, HB1.out⟩
end Go.Proofs.YtjlcbhlpibgplaaDoor.P
