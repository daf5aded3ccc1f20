/- TokenRows: every two texts. -/
import Derived.Test.YtjlcbhlpibgplaaDoorTokR
import Derived.Test.YtjlcbhlpibgplaaDoorTokG
namespace Go.Proofs.YtjlcbhlpibgplaaDoor.P
open Go.RowKit Go.Proofs.YtjlcbhlpibgplaaDoorW.PrintWords Go.Proofs.YtjlcbhlpibgplaaDoorW.PrintLast Go.Proofs.YtjlcbhlpibgplaaDoorW.PrintMore
set_option linter.unusedVariables false
set_option linter.unusedSimpArgs false
theorem lit_nil (W : World) : Kd.R k30 30 (W.alloc (.cells #[] 30)) W.heap.size (fun _ => True) (.slice (some ⟨W.heap.size, 0, none⟩) 0 0) [] :=
  ⟨fun _ _ => trivial, [], by
    have h2 := World.ownsRow_lit (base := W.heap.size) (e := 30) (size := k30.sz) W #[] 0 (Nat.le_refl _) (by decide) (by simp)
    simpa using h2, rfl, fun j p h => by simp at h⟩
theorem slice_some {A : Option Addr} {c n : Nat} (h : c ≠ n) : True := trivial
set_option maxRecDepth 100000 in
set_option maxHeartbeats 8000000 in
theorem rows_1 (s t : ByteArray) (hs : s.size ≤ 1000) (ht : t.size ≤ 1000) (n : Nat) (lb : List S30) (m f : Int) (hcs : cutR s = ([], (n : Int), 2)) (hct : cutR t = (lb, m, f)) (hcb : cutR (both s t) = ([], (n : Int), 2)) (w : World) (hE : Env w) :
    Calls Tryd.prog 5 #[.string s, .string t] w fun e_ w' => e_ = .returned (.bool true) ∧ Below w.heap.size w w' := by
  have HE := Lib.hid hE
  have HS := Lib.hid hcs
  have HT := Lib.hid hct
  have HBO := Lib.hid hcb
  clear hE hcs hct hcb
  have t1 : decide ((1000 : Int) < (s.size : Int)) = false := by simp; omega
  have t2 : decide (1000 < s.size) = false := by simp; omega
  have t3 : decide ((1000 : Int) < (t.size : Int)) = false := by simp; omega
  have t4 : decide (1000 < t.size) = false := by simp; omega
  go_enter Tryd.func5, Tryd.ntmps5
  go_wp2_with fail
  refine (shown_is w HE.out).mono ?_
  rintro e_ w1 ⟨rfl, hb_⟩
  have HB1 : Hid (Below w.heap.size w w1) := Lib.hid hb_
  clear hb_
  go_wp2_with fail
  refine (cut_to HS.out w1 (HE.out.below HB1.out HE.out.six)).mono ?_
  rintro e_ w2 ⟨A1, c1, rfl, hc1, hC1, hb_⟩
  have HB2 : Hid (Below w.heap.size w w2) := Lib.hid (below_step HB1.out hb_)
  clear hb_ HB1
  go_wp2_with fail
  refine (cut_to HT.out w2 (HE.out.below HB2.out HE.out.six)).mono ?_
  rintro e_ w3 ⟨A2, c2, rfl, hc2, hC2, hb_⟩
  have HB3 : Hid (Below w.heap.size w w3) := Lib.hid (below_step HB2.out hb_)
  have hD1 := Lib.hid (Kd.C_below hC1.out hb_)
  clear hb_ HB2 hC1
  go_wp2_with fail
  refine (cut_to HBO.out w3 (HE.out.below HB3.out HE.out.six)).mono ?_
  rintro e_ w4 ⟨A3, c3, rfl, hc3, hC3, hb_⟩
  have HB4 : Hid (Below w.heap.size w w4) := Lib.hid (below_step HB3.out hb_)
  have hE1 := Lib.hid (Kd.C_below hD1.out hb_)
  have hE2 := Lib.hid (Kd.C_below hC2.out hb_)
  clear hb_ HB3 hD1 hC2
  go_wp2_with fail
  go_ret
  exact ⟨rfl, HB4.out⟩
set_option maxRecDepth 100000 in
set_option maxHeartbeats 8000000 in
theorem rows_2 (s t : ByteArray) (hs : s.size ≤ 1000) (ht : t.size ≤ 1000) (a : List S30) (m : Nat) (hm : m ≤ t.size) (hcs : cutR s = (a, 0, 0)) (hct : cutR t = ([], (m : Int), 2)) (hcb : cutR (both s t) = ([], (s.size : Int) + 1 + m, 2)) (w : World) (hE : Env w) :
    Calls Tryd.prog 5 #[.string s, .string t] w fun e_ w' => e_ = .returned (.bool true) ∧ Below w.heap.size w w' := by
  have HE := Lib.hid hE
  have HS := Lib.hid hcs
  have HT := Lib.hid hct
  have HBO := Lib.hid hcb
  clear hE hcs hct hcb
  have t1 : decide ((1000 : Int) < (s.size : Int)) = false := by simp; omega
  have t2 : decide (1000 < s.size) = false := by simp; omega
  have t3 : decide ((1000 : Int) < (t.size : Int)) = false := by simp; omega
  have t4 : decide (1000 < t.size) = false := by simp; omega
  go_enter Tryd.func5, Tryd.ntmps5
  go_wp2_with fail
  refine (shown_is w HE.out).mono ?_
  rintro e_ w1 ⟨rfl, hb_⟩
  have HB1 : Hid (Below w.heap.size w w1) := Lib.hid hb_
  clear hb_
  go_wp2_with fail
  refine (cut_to HS.out w1 (HE.out.below HB1.out HE.out.six)).mono ?_
  rintro e_ w2 ⟨A1, c1, rfl, hc1, hC1, hb_⟩
  have HB2 : Hid (Below w.heap.size w w2) := Lib.hid (below_step HB1.out hb_)
  clear hb_ HB1
  go_wp2_with fail
  refine (cut_to HT.out w2 (HE.out.below HB2.out HE.out.six)).mono ?_
  rintro e_ w3 ⟨A2, c2, rfl, hc2, hC2, hb_⟩
  have HB3 : Hid (Below w.heap.size w w3) := Lib.hid (below_step HB2.out hb_)
  have hD1 := Lib.hid (Kd.C_below hC1.out hb_)
  clear hb_ HB2 hC1
  go_wp2_with fail
  refine (cut_to HBO.out w3 (HE.out.below HB3.out HE.out.six)).mono ?_
  rintro e_ w4 ⟨A3, c3, rfl, hc3, hC3, hb_⟩
  have HB4 : Hid (Below w.heap.size w w4) := Lib.hid (below_step HB3.out hb_)
  have hE1 := Lib.hid (Kd.C_below hD1.out hb_)
  have hE2 := Lib.hid (Kd.C_below hC2.out hb_)
  clear hb_ HB3 hD1 hC2
  go_wp2_with fail
  go_ret
  exact ⟨rfl, HB4.out⟩
set_option maxRecDepth 100000 in
set_option maxHeartbeats 8000000 in
theorem rows_3 (s t : ByteArray) (hs : s.size ≤ 1000) (ht : t.size ≤ 1000) (a b c : List S30) (h1 : 1 ≤ a.length) (h2 : a.length ≤ 1001) (h3 : b.length ≤ 1001) (h4 : c.length ≤ 3000) (h5 : c.map core = (a.take (a.length - 1) ++ b).map core) (hcs : cutR s = (a, 0, 0)) (hct : cutR t = (b, 0, 0)) (hcb : cutR (both s t) = (c, 0, 0)) (w : World) (hE : Env w) :
    Calls Tryd.prog 5 #[.string s, .string t] w fun e_ w' => e_ = .returned (.bool true) ∧ Below w.heap.size w w' := by
  have HE := Lib.hid hE
  have HS := Lib.hid hcs
  have HT := Lib.hid hct
  have HBO := Lib.hid hcb
  clear hE hcs hct hcb
  have t1 : decide ((1000 : Int) < (s.size : Int)) = false := by simp; omega
  have t2 : decide (1000 < s.size) = false := by simp; omega
  have t3 : decide ((1000 : Int) < (t.size : Int)) = false := by simp; omega
  have t4 : decide (1000 < t.size) = false := by simp; omega
  have H5 := Lib.hid h5
  clear h5
  go_enter Tryd.func5, Tryd.ntmps5
  go_wp2_with fail
  refine (shown_is w HE.out).mono ?_
  rintro e_ w1 ⟨rfl, hb_⟩
  have HB1 : Hid (Below w.heap.size w w1) := Lib.hid hb_
  clear hb_
  go_wp2_with fail
  refine (cut_to HS.out w1 (HE.out.below HB1.out HE.out.six)).mono ?_
  rintro e_ w2 ⟨A1, c1, rfl, hc1, hC1, hb_⟩
  have HB2 : Hid (Below w.heap.size w w2) := Lib.hid (below_step HB1.out hb_)
  clear hb_ HB1
  go_wp2_with fail
  refine (cut_to HT.out w2 (HE.out.below HB2.out HE.out.six)).mono ?_
  rintro e_ w3 ⟨A2, c2, rfl, hc2, hC2, hb_⟩
  have HB3 : Hid (Below w.heap.size w w3) := Lib.hid (below_step HB2.out hb_)
  have hD1 := Lib.hid (Kd.C_below hC1.out hb_)
  clear hb_ HB2 hC1
  go_wp2_with fail
  refine (cut_to HBO.out w3 (HE.out.below HB3.out HE.out.six)).mono ?_
  rintro e_ w4 ⟨A3, c3, rfl, hc3, hC3, hb_⟩
  have HB4 : Hid (Below w.heap.size w w4) := Lib.hid (below_step HB3.out hb_)
  have hE1 := Lib.hid (Kd.C_below hD1.out hb_)
  have hE2 := Lib.hid (Kd.C_below hC2.out hb_)
  clear hb_ HB3 hD1 hC2
  have k1 : (1 : Int) ≤ a.length ∧ (a.length : Int) - 1 ≤ c1 := by have := hc1.out; omega
  go_wp2_with (((with_reducible refine gate_builtin (b := .append) (xs := #[.tmp 82, .tmp 87]) rfl ?_); at_builtin; refine Stp.out ?_))
  unfold Stp
  refine gate_guard (by rfl) ?_
  dsimp only
  have hO0 := lit_nil w4
  have hb5 : Below w4.heap.size w4 (w4.alloc (.cells #[] 30)) := below_alloc (Below.refl _ _) _
  have hC5 := Kd.C_alloc hE1.out (.cells #[] 30)
  have D2 := Lib.hid (Kd.C_alloc hE2.out (.cells #[] 30))
  have D3 := Lib.hid (Kd.C_alloc hC3.out (.cells #[] 30))
  obtain ⟨w5, hw5⟩ : ∃ W_, W_ = w4.alloc (.cells #[] 30) := ⟨_, rfl⟩
  rw [← hw5] at hO0 hb5 hC5 D2 D3 ⊢
  refine Kd.R_append_rows k30 (Rr := k30.K w5) (w0 := w4) w4.heap.size rfl (.tmp 82) (.tmp 87) 23 30 (.agg #[(.int .i64 0), (.int .i64 0), (.int .i64 0), (.string ⟨#[]⟩)]) 40 rfl Tryd.underlying23 info30 rfl (by decide) (by omega) _ [] (a.take (a.length - 1)) _ _ _ (fun _ => True) (fun _ => False) rfl rfl hO0 ?hr (fun x cs h => by rw [k30_open h]; exact k30_mkM _ _ _ x) (fun _ hk => hk.elim) (fun _ _ => trivial) hb5 hb5.size ?hl ?_
  case hr =>
    have h := Kd.C_take hC5 (m := a.length - 1) (by omega)
    rw [List.length_take, Nat.min_eq_left (by omega)] at h
    exact h
  case hl => simp; omega
  intro v6 w6 hO6 hb6 hg6 hat6
  rw [List.nil_append] at hO6
  have E2 := Kd.C_below hE2.out hb6
  clear hg6 hat6 hO0 hb5 hC5 D2 D3 hw5
  go_wp2_with (((with_reducible refine gate_builtin (b := .append) (xs := #[.tmp 88, .tmp 89]) rfl ?_); at_builtin; refine Stp.out ?_))
  unfold Stp
  refine gate_guard (by rfl) ?_
  dsimp only
  refine Kd.R_append_rows k30 (Rr := k30.K w6) (w0 := w4) w4.heap.size rfl (.tmp 88) (.tmp 89) 23 30 (.agg #[(.int .i64 0), (.int .i64 0), (.int .i64 0), (.string ⟨#[]⟩)]) 40 rfl Tryd.underlying23 info30 rfl (by decide) (by omega) v6 (a.take (a.length - 1)) b _ _ _ (fun _ => True) (fun _ => False) rfl rfl hO6 E2 (fun x cs h => by rw [k30_open h]; exact k30_mkM _ _ _ x) (fun _ hk => hk.elim) (fun _ _ => trivial) hb6 hb6.size (by simp; omega) ?_
  intro v7 w7 hO7 hb7 hg7 hat7
  have hl := congrArg List.length H5.out
  rw [List.length_map, List.length_map] at hl
  have hlk := like_ok c _ H5.out (by omega)
  obtain ⟨l7, hl7⟩ : ∃ l_, l_ = a.take (a.length - 1) ++ b := ⟨_, rfl⟩
  rw [← hl7] at hO7 hl hlk
  obtain ⟨A7, c7, rfl, hc7, hC7⟩ := Kd.R_reads hO7
  have HB7 := Lib.hid (below_step HB4.out hb7)
  have HK := Lib.hid (runnellaw3_like.calls (c.length + 1) A3 c3 c A7 c7 l7 true w7 (Kd.C_below hC3.out hb7) hc3.out hC7 hc7 hlk)
  clear hg7 hat7 hC7 hO7 E2 hO6 hb6 hb7 hl hlk hl7 hc7 hE1 hE2 hC3 HB4 HS HT HBO H5
  go_wp2_with fail
  refine HK.out.mono ?_
  rintro e_ w8 ⟨rfl, hd_⟩
  have HB8 : Hid (Below w.heap.size w w8) := Lib.hid (by
    obtain ⟨k_, rfl⟩ := hd_
    exact pw_below_drewN HB7.out _)
  clear hd_
  go_wp2_with fail
  go_ret
  exact ⟨rfl, HB8.out⟩
set_option maxRecDepth 100000 in
set_option maxHeartbeats 4000000 in
theorem tokenRows_any (s t : ByteArray) (w : World) (hE : Env w) : Calls Tryd.prog 5 #[.string s, .string t] w fun e w' => e = .returned (.bool true) ∧ Below w.heap.size w w' := by
  by_cases hs : s.size ≤ 1000
  · by_cases ht : t.size ≤ 1000
    · rcases rows_cases s t hs ht with ⟨n, lb, m, f, h1, h2, h3⟩ | ⟨a, m, hm, h1, h2, h3⟩ | ⟨a, b, c, h1, h2, h3, k1, k2, k3, k4, k5⟩
      · exact rows_1 s t hs ht n lb m f h1 h2 h3 w hE
      · exact rows_2 s t hs ht a m hm h1 h2 h3 w hE
      · exact rows_3 s t hs ht a b c k1 k2 k3 k4 k5 h1 h2 h3 w hE
    · have HE := Lib.hid hE
      clear hE
      have t1 : decide ((1000 : Int) < (s.size : Int)) = false := by simp; omega
      have t2 : decide (1000 < s.size) = false := by simp; omega
      have t3 : decide ((1000 : Int) < (t.size : Int)) = true := by simp; omega
      have t4 : decide (1000 < t.size) = true := by simp; omega
      go_enter Tryd.func5, Tryd.ntmps5
      go_wp2_with fail
      refine (shown_is w HE.out).mono ?_
      rintro e_ w1 ⟨rfl, hb_⟩
      have HB1 : Hid (Below w.heap.size w w1) := Lib.hid hb_
      clear hb_
      go_wp2_with fail
      go_ret
      exact ⟨rfl, HB1.out⟩
  · have HE := Lib.hid hE
    clear hE
    have t1 : decide ((1000 : Int) < (s.size : Int)) = true := by simp; omega
    have t2 : decide (1000 < s.size) = true := by simp; omega
    go_enter Tryd.func5, Tryd.ntmps5
    go_wp2_with fail
    refine (shown_is w HE.out).mono ?_
    rintro e_ w1 ⟨rfl, hb_⟩
    have HB1 : Hid (Below w.heap.size w w1) := Lib.hid hb_
    clear hb_
    go_wp2_with fail
    go_ret
    exact ⟨rfl, HB1.out⟩
end Go.Proofs.YtjlcbhlpibgplaaDoor.P
