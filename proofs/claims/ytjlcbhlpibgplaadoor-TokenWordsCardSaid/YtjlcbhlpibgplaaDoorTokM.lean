/- TokenWords: every text. -/
import Derived.Test.YtjlcbhlpibgplaaDoorTokK
import Derived.Test.YtjlcbhlpibgplaaDoorTokL
namespace Go.Proofs.YtjlcbhlpibgplaaDoor.P
open Go.RowKit Go.Proofs.YtjlcbhlpibgplaaDoorW.PrintWords Go.Proofs.YtjlcbhlpibgplaaDoorW.PrintLast Go.Proofs.YtjlcbhlpibgplaaDoorW.PrintMore
set_option linter.unusedVariables false
set_option linter.unusedSimpArgs false
set_option maxRecDepth 100000 in
set_option maxHeartbeats 4000000 in
theorem tokenWords_any (s : ByteArray) (w : World) (hE : Env w) : Calls Tryd.prog 6 #[.string s] w fun e w' => e = .returned (.bool true) ∧ Below w.heap.size w w' := by
  by_cases hs : s.size ≤ 500
  · rcases words_cases s hs with ⟨hk, hi, hc⟩ | ⟨hk, hi, hc⟩ | ⟨hk, hi, hr⟩
    · exact words_k s hs hk hi hc w hE
    · exact words_i s hs hk hi hc w hE
    · rcases hc : cutR s with ⟨l, k, e⟩
      rw [hc] at hr
      rcases hr with he | ⟨he, hl⟩ | ⟨he, a, b, hl, h⟩
      · exact words_0 s hs hk hi l k e he hc w hE
      · obtain rfl : e = 0 := he
        exact words_1 s hs hk hi l k hl hc w hE
      · obtain rfl : e = 0 := he
        obtain rfl : l = [a, b] := hl
        rcases h with h2 | ⟨h2, h3⟩ | ⟨h2, h3, h0⟩ | ⟨h2, h3, h0, hv⟩
        · exact words_2 s hs hk hi a b k h2 hc w hE
        · exact words_3 s hs hk hi a b k h2 h3 hc w hE
        · obtain ⟨a0, a1, a2, a3⟩ := a
          obtain rfl : a2 = 0 := h2
          obtain rfl : a3 = s := h3
          obtain rfl : a0 = 3 := h0
          exact words_4 a3 hs hk hi b a1 k hc w hE
        · obtain ⟨a0, a1, a2, a3⟩ := a
          obtain rfl : a2 = 0 := h2
          obtain rfl : a3 = s := h3
          obtain rfl : a0 = 2 := h0
          exact words_5 a3 hs hk hi b a1 k hv hc w hE
  · have HE := Lib.hid hE
    clear hE
    have t1 : decide ((500 : Int) < (s.size : Int)) = true := by simp; omega
    have t2 : decide (500 < s.size) = true := by simp; omega
    go_enter Tryd.func6, Tryd.ntmps6
    go_wp2_with fail
    refine (shown_is w HE.out).mono ?_
    rintro e_ w1 ⟨rfl, hb_⟩
    have HB1 : Hid (Below w.heap.size w w1) := Lib.hid hb_
    clear hb_
    go_wp2_with fail
    go_ret
    exact ⟨rfl, HB1.out⟩
end Go.Proofs.YtjlcbhlpibgplaaDoor.P
