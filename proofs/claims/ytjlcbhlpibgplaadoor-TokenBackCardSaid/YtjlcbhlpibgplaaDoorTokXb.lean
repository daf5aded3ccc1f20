/- TokenBack: every text. -/
import Derived.Test.YtjlcbhlpibgplaaDoorTokXa
import Derived.Test.YtjlcbhlpibgplaaDoorTokG
namespace Go.Proofs.YtjlcbhlpibgplaaDoor.P
open Go.RowKit Go.Proofs.YtjlcbhlpibgplaaDoorW.PrintWords Go.Proofs.YtjlcbhlpibgplaaDoorW.PrintLast Go.Proofs.YtjlcbhlpibgplaaDoorW.PrintMore
set_option linter.unusedVariables false
set_option linter.unusedSimpArgs false
set_option maxRecDepth 100000 in
set_option maxHeartbeats 8000000 in
theorem back_0 (s : ByteArray) (hs : s.size ≤ 2000) (n : Nat) (hn : n < s.size) (hcs : cutR s = ([], (n : Int), 2)) (w : World) (hE : Env w) :
    Calls Tryd.prog 8 #[.string s] w fun e_ w' => e_ = .returned (.bool true) ∧ Below w.heap.size w w' := by
  have HE := Lib.hid hE
  clear hE
  have HS := Lib.hid hcs
  clear hcs
  have t1 : decide ((2000 : Int) < (s.size : Int)) = false := by simp; omega
  have t2 : decide (2000 < s.size) = false := by simp; omega
  go_enter Tryd.func8, Tryd.ntmps8
  go_wp2_with fail
  refine (shown_is w HE.out).mono ?_
  rintro e_ w1 ⟨rfl, hb_⟩
  have HB1 : Hid (Below w.heap.size w w1) := Lib.hid hb_
  clear hb_
  go_wp2_with fail
  refine (cut_to HS.out w1 (HE.out.below HB1.out HE.out.six)).mono ?_
  rintro e_ w2 ⟨A1, c1, rfl, hc1, hC1, hb_⟩
  have HB2 : Hid (Below w.heap.size w w2) := Lib.hid (below_step HB1.out hb_)
  clear hb_ HB1
  have q1 : decide ((0 : Int) ≤ (n : Int)) = true := decide_eq_true (by omega)
  have q2 : decide ((n : Int) < (s.size : Int)) = true := decide_eq_true (by omega)
  have q3 : decide (n < s.size) = true := decide_eq_true hn
  go_wp2_with fail
  go_ret
  exact ⟨rfl, HB2.out⟩
set_option maxRecDepth 100000 in
set_option maxHeartbeats 8000000 in
theorem back_1 (s : ByteArray) (hs : s.size ≤ 2000) (ts us : List S30) (J : ByteArray) (hl : ts.length ≤ 2001) (hj : (Lib.join ((textsOf ts).map (·.data.toList)) [32]).length ≤ 4000) (hJ : joinB (textsOf ts) = J) (hz : J.size ≤ 2 * s.size) (hcj : cutR J = (us, 0, 0)) (hul : us.length ≤ 2001) (hco : ts.map core = us.map core) (htx : textsOf us = textsOf ts)
    (hcs : cutR s = (ts, 0, 0)) (w : World) (hE : Env w) :
    Calls Tryd.prog 8 #[.string s] w fun e_ w' => e_ = .returned (.bool true) ∧ Below w.heap.size w w' := by
  have HJ1 := Lib.hid (fun A c (w : World) hC hc => join_is ts A c (by omega) (by omega) w hC hc)
  have HJ2 := Lib.hid (fun A c (w : World) hC hc => join_is us A c (by omega) (by rw [htx]; omega) w hC hc)
  have HL := Lib.hid (fun A1 c1 A2 c2 (w : World) h1 h2 h3 h4 => runnellaw3_like.calls (ts.length + 1) A1 c1 ts A2 c2 us true w h1 h2 h3 h4 (like_ok ts us hco (by omega)))
  rw [htx] at HJ2
  rw [hJ] at HJ1 HJ2
  have HCJ := Lib.hid hcj
  clear hj hJ hcj hco htx
  have HE := Lib.hid hE
  clear hE
  have HS := Lib.hid hcs
  clear hcs
  have t1 : decide ((2000 : Int) < (s.size : Int)) = false := by simp; omega
  have t2 : decide (2000 < s.size) = false := by simp; omega
  go_enter Tryd.func8, Tryd.ntmps8
  go_wp2_with fail
  refine (shown_is w HE.out).mono ?_
  rintro e_ w1 ⟨rfl, hb_⟩
  have HB1 : Hid (Below w.heap.size w w1) := Lib.hid hb_
  clear hb_
  go_wp2_with fail
  refine (cut_to HS.out w1 (HE.out.below HB1.out HE.out.six)).mono ?_
  rintro e_ w2 ⟨A1, c1, rfl, hc1, hC1, hb_⟩
  have HB2 : Hid (Below w.heap.size w w2) := Lib.hid (below_step HB1.out hb_)
  clear hb_ HB1
  go_wp2_with fail
  refine (HJ1.out A1 c1 w2 hC1.out hc1.out).mono ?_
  rintro e_ w3 ⟨rfl, hb_⟩
  have HB3 : Hid (Below w.heap.size w w3) := Lib.hid (below_step HB2.out hb_)
  have hC3 := Lib.hid (Kd.C_below hC1.out hb_)
  clear hb_ HB2 hC1
  go_wp2_with fail
  refine (cut_to HCJ.out w3 (HE.out.below HB3.out HE.out.six)).mono ?_
  rintro e_ w4 ⟨A2, c2, rfl, hc2, hD, hb_⟩
  have HB4 : Hid (Below w.heap.size w w4) := Lib.hid (below_step HB3.out hb_)
  have hC4 := Lib.hid (Kd.C_below hC3.out hb_)
  clear hb_ HB3 hC3
  go_wp2_with fail
  refine (HL.out A1 c1 A2 c2 w4 hC4.out hc1.out hD.out hc2.out).mono ?_
  rintro e_ w5 ⟨rfl, hd_⟩
  have hb_ : Below w4.heap.size w4 w5 := by
    obtain ⟨k_, rfl⟩ := hd_
    exact pw_below_drewN (Below.refl _ _) _
  have HB5 : Hid (Below w.heap.size w w5) := Lib.hid (below_step HB4.out hb_)
  have hD5 := Lib.hid (Kd.C_below hD.out hb_)
  clear hb_ hd_ HB4 hD hC4
  go_wp2_with fail
  refine (HJ2.out A2 c2 w5 hD5.out hc2.out).mono ?_
  rintro e_ w6 ⟨rfl, hb_⟩
  have HB6 : Hid (Below w.heap.size w w6) := Lib.hid (below_step HB5.out hb_)
  clear hb_ hD5 HB5
  have wr : IntKind.i64.wrap (2 * (s.size : Int)) = 2 * (s.size : Int) := by rw [i64_w]; unfold wrap64; omega
  have q1 : decide ((J.size : Int) ≤ 2 * (s.size : Int)) = true := decide_eq_true (by omega)
  have q2 : decide (J.size ≤ 2 * s.size) = true := decide_eq_true hz
  go_wp2_with fail
  go_ret
  exact ⟨rfl, HB6.out⟩
set_option maxRecDepth 100000 in
set_option maxHeartbeats 4000000 in
theorem tokenBack_any (s : ByteArray) (w : World) (hE : Env w) : Calls Tryd.prog 8 #[.string s] w fun e w' => e = .returned (.bool true) ∧ Below w.heap.size w w' := by
  by_cases hs : s.size ≤ 2000
  · rcases back_cases s hs with ⟨n, hn, h⟩ | ⟨ts, us, h, h1, h2, h3, h4, h5, h6, h7⟩
    · exact back_0 s hs n hn h w hE
    · exact back_1 s hs ts us _ h1 h2 rfl h3 h4 h5 h6 h7 h w hE
  · have HE := Lib.hid hE
    clear hE
    have t1 : decide ((2000 : Int) < (s.size : Int)) = true := by simp; omega
    have t2 : decide (2000 < s.size) = true := by simp; omega
    go_enter Tryd.func8, Tryd.ntmps8
    go_wp2_with fail
    refine (shown_is w HE.out).mono ?_
    rintro e_ w1 ⟨rfl, hb_⟩
    have HB1 : Hid (Below w.heap.size w w1) := Lib.hid hb_
    clear hb_
    go_wp2_with fail
    go_ret
    exact ⟨rfl, HB1.out⟩
end Go.Proofs.YtjlcbhlpibgplaaDoor.P
