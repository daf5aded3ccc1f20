/- TokenTells: whatever texts, tokens and number; the tokens' texts, joined, are no longer than a text may be. -/
import Derived.Test.YtjlcbhlpibgplaaDoorTokYb
import Derived.Test.YtjlcbhlpibgplaaDoorTokG
namespace Go.Proofs.YtjlcbhlpibgplaaDoor.P
open Go.RowKit Go.Proofs.YtjlcbhlpibgplaaDoorW.PrintWords Go.Proofs.YtjlcbhlpibgplaaDoorW.PrintLast Go.Proofs.YtjlcbhlpibgplaaDoorW.PrintMore
set_option linter.unusedVariables false
set_option linter.unusedSimpArgs false
set_option maxRecDepth 100000 in
set_option maxHeartbeats 8000000 in
theorem tells_1 (s t : ByteArray) (hs : s.size ≤ 500) (ht : t.size ≤ 500) (A : Option Addr) (c : Nat) (l : List S30) (hl : l.length ≤ 100) (at_ : Int) (hz : (Lib.join (textsL l) [32]).length ≤ 140737488355328) (w : World) (hE : Env w) (hC : Kd.C k30 w A l.length l) (hc : l.length ≤ c) :
    Calls Tryd.prog 9 #[.string s, .string t, .slice A l.length c, .int .i64 at_] w fun e_ w' => e_ = .returned (.bool true) ∧ Below w.heap.size w w' := by
  have HE := Lib.hid hE
  have HC := Lib.hid hC
  have HCC := Lib.hid hc
  have HZ := Lib.hid hz
  clear hE hC hc hz
  have HP := Lib.hid (place_is t at_ (by omega))
  have HRP := Lib.hid (fun w => runnelref3_Place.calls (2 * t.size + 2) t at_ _ _ w (ref_place t at_ (by omega)))
  obtain ⟨x, hx⟩ : ∃ x, x = (feedsN t (clampN t at_) : Int) + 1 := ⟨_, rfl⟩
  obtain ⟨y, hy⟩ : ∃ y, y = (clampN t at_ : Int) - lastN t (clampN t at_) := ⟨_, rfl⟩
  rw [← hx, ← hy] at HP HRP
  obtain ⟨kb, hkb⟩ : ∃ b, b = keptB s := ⟨_, rfl⟩
  obtain ⟨ib, hib⟩ : ∃ b, b = identB s := ⟨_, rfl⟩
  obtain ⟨J, hJ⟩ : ∃ b, b = joinB (textsOf l) := ⟨_, rfl⟩
  have HK := Lib.hid (fun w hE => kept_is s kb hkb.symm (by omega) w hE)
  have HRK := Lib.hid (fun w => runnelref3_Kept.calls 21 s kb w (by rw [hkb]; exact ref_kept s 21 (Nat.le_refl _)))
  have HI := Lib.hid (fun w hE => ident_is s ib hib.symm (by omega) w hE)
  have HRI := Lib.hid (fun w => runnelref3_Ident.calls (26 + s.size) s ib w (by rw [hib]; exact ref_ident s (by omega) _ (Nat.le_refl _)))
  have HJ := Lib.hid (fun (w : World) hC hc => join_is l A c (by omega) HZ.out w hC hc)
  have HRJ := Lib.hid (fun (w : World) hC hc => runnelref3_Join.calls (l.length + 1) A c l J w hC hc (by rw [hJ]; exact ref_join l (by omega) HZ.out))
  rw [← hJ] at HJ
  clear hx hy hkb hib hJ
  have t1 : decide ((500 : Int) < (s.size : Int)) = false := by simp; omega
  have t2 : decide (500 < s.size) = false := by simp; omega
  have t3 : decide ((500 : Int) < (t.size : Int)) = false := by simp; omega
  have t4 : decide (500 < t.size) = false := by simp; omega
  have t5 : decide ((100 : Int) < (l.length : Int)) = false := by simp; omega
  have t6 : decide (100 < l.length) = false := by simp; omega
  go_enter Tryd.func9, Tryd.ntmps9
  go_wp2_with fail
  refine (shown_is w HE.out).mono ?_
  rintro e_ w1 ⟨rfl, hb_⟩
  have HB : Hid (Below w.heap.size w w1) := Lib.hid hb_
  clear hb_
  go_wp2_with fail
  refine (HP.out w1).mono ?_
  rintro e_ w2 ⟨rfl, rfl⟩
  go_wp2_with fail
  refine (HRP.out w1).mono ?_
  rintro e_ w3 ⟨rfl, hd_⟩
  have NB : Hid (Below w.heap.size w w3) := Lib.hid (by
    obtain ⟨k_, rfl⟩ := hd_
    exact pw_below_drewN HB.out _)
  clear hd_ HB
  have HB := NB
  clear NB
  go_wp2_with fail
  refine (HK.out w3 (HE.out.below HB.out HE.out.six)).mono ?_
  rintro e_ w4 ⟨rfl, rfl⟩
  go_wp2_with fail
  refine (HRK.out w3).mono ?_
  rintro e_ w5 ⟨rfl, hb_⟩
  have NB : Hid (Below w.heap.size w w5) := Lib.hid (below_step HB.out hb_)
  clear hb_ HB
  have HB := NB
  clear NB
  go_wp2_with fail
  refine (HI.out w5 (HE.out.below HB.out HE.out.six)).mono ?_
  rintro e_ w6 ⟨rfl, hb_⟩
  have NB : Hid (Below w.heap.size w w6) := Lib.hid (below_step HB.out hb_)
  clear hb_ HB
  have HB := NB
  clear NB
  go_wp2_with fail
  refine (HRI.out w6).mono ?_
  rintro e_ w7 ⟨rfl, hb_⟩
  have NB : Hid (Below w.heap.size w w7) := Lib.hid (below_step HB.out hb_)
  clear hb_ HB
  have HB := NB
  clear NB
  go_wp2_with fail
  refine (HJ.out w7 (Kd.C_below HC.out HB.out) HCC.out).mono ?_
  rintro e_ w8 ⟨rfl, hb_⟩
  have NB : Hid (Below w.heap.size w w8) := Lib.hid (below_step HB.out hb_)
  clear hb_ HB
  have HB := NB
  clear NB
  go_wp2_with fail
  refine (HRJ.out w8 (Kd.C_below HC.out HB.out) HCC.out).mono ?_
  rintro e_ w9 ⟨rfl, hd_⟩
  have NB : Hid (Below w.heap.size w w9) := Lib.hid (by
    obtain ⟨k_, rfl⟩ := hd_
    exact pw_below_drewN HB.out _)
  clear hd_ HB
  have HB := NB
  clear NB
  go_wp2_with fail
  go_ret
  exact ⟨rfl, HB.out⟩
set_option maxRecDepth 100000 in
set_option maxHeartbeats 4000000 in
theorem tokenTells_any (s t : ByteArray) (A : Option Addr) (c : Nat) (l : List S30) (at_ : Int) (hz : (Lib.join (textsL l) [32]).length ≤ 140737488355328) (w : World) (hE : Env w) (hC : Kd.C k30 w A l.length l) (hc : l.length ≤ c) :
    Calls Tryd.prog 9 #[.string s, .string t, .slice A l.length c, .int .i64 at_] w fun e w' => e = .returned (.bool true) ∧ Below w.heap.size w w' := by
  by_cases hs : s.size ≤ 500
  · by_cases ht : t.size ≤ 500
    · by_cases hl : l.length ≤ 100
      · exact tells_1 s t hs ht A c l hl at_ hz w hE hC hc
      · clear hz hC hc
        have HE := Lib.hid hE
        clear hE
        have t1 : decide ((500 : Int) < (s.size : Int)) = false := by simp; omega
        have t1n : decide (500 < s.size) = false := by simp; omega
        have t2 : decide ((500 : Int) < (t.size : Int)) = false := by simp; omega
        have t2n : decide (500 < t.size) = false := by simp; omega
        have t3 : decide ((100 : Int) < (l.length : Int)) = true := by simp; omega
        have t3n : decide (100 < l.length) = true := by simp; omega
        go_enter Tryd.func9, Tryd.ntmps9
        go_wp2_with fail
        refine (shown_is w HE.out).mono ?_
        rintro e_ w1 ⟨rfl, hb_⟩
        have HB1 : Hid (Below w.heap.size w w1) := Lib.hid hb_
        clear hb_
        go_wp2_with fail
        go_ret
        exact ⟨rfl, HB1.out⟩
    · clear hz hC hc
      have HE := Lib.hid hE
      clear hE
      have t1 : decide ((500 : Int) < (s.size : Int)) = false := by simp; omega
      have t1n : decide (500 < s.size) = false := by simp; omega
      have t2 : decide ((500 : Int) < (t.size : Int)) = true := by simp; omega
      have t2n : decide (500 < t.size) = true := by simp; omega
      go_enter Tryd.func9, Tryd.ntmps9
      go_wp2_with fail
      refine (shown_is w HE.out).mono ?_
      rintro e_ w1 ⟨rfl, hb_⟩
      have HB1 : Hid (Below w.heap.size w w1) := Lib.hid hb_
      clear hb_
      go_wp2_with fail
      go_ret
      exact ⟨rfl, HB1.out⟩
  · clear hz hC hc
    have HE := Lib.hid hE
    clear hE
    have t1 : decide ((500 : Int) < (s.size : Int)) = true := by simp; omega
    have t1n : decide (500 < s.size) = true := by simp; omega
    go_enter Tryd.func9, Tryd.ntmps9
    go_wp2_with fail
    refine (shown_is w HE.out).mono ?_
    rintro e_ w1 ⟨rfl, hb_⟩
    have HB1 : Hid (Below w.heap.size w w1) := Lib.hid hb_
    clear hb_
    go_wp2_with fail
    go_ret
    exact ⟨rfl, HB1.out⟩
end Go.Proofs.YtjlcbhlpibgplaaDoor.P
