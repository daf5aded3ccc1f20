-- Printed by a changed copy of the kit's print.py (our wip/print/patch.py). Lean alone checks it.
import Derived.Test.YtpggidmpkhmijaaP0
namespace Go.Proofs.Ytpggidmpkhmijaa.P
open Go.RowKit Go.Proofs.YtpggidmpkhmijaaW.PrintWords Go.Proofs.YtpggidmpkhmijaaW.PrintLast Go.Proofs.YtpggidmpkhmijaaW.PrintMore
attribute [local go_sem] max2_int min2_int max_two min_two max_three min_three max_four min_four   -- for this text's walks alone
set_option linter.unusedVariables false
set_option linter.unusedSimpArgs false

/-! ### runnellaw4_small: function 9 -/
mutual
def runnellaw4_small.l0 : Nat → List (S30) → Int → Option (Bool)
  | 0, _, _ => none
  | k + 1, x0, x3 => if x3 < (x0.length : Int) then (if 0 ≤ x3 then (if (((rd_T30 x0 x3).f0).length : Int) > 200 then (some false) else (runnellaw4_small.l1 k x0 x3 0)) else (none)) else (some true)
def runnellaw4_small.l1 : Nat → List (S30) → Int → Int → Option (Bool)
  | 0, _, _, _ => none
  | k + 1, x0, x3, x4 => if 0 ≤ x3 then (if x3 < (x0.length : Int) then (if x4 < (((rd_T30 x0 x3).f0).length : Int) then (if 0 ≤ x4 then (if (((rd_T24 ((rd_T30 x0 x3).f0) x4).f4).length : Int) > 200 then (some false) else (if (((rd_T24 ((rd_T30 x0 x3).f0) x4).f3).size : Int) > 200 then (some false) else (runnellaw4_small.l1 k x0 x3 (wrap64 (x4 + 1))))) else (none)) else (runnellaw4_small.l0 k x0 (wrap64 (x3 + 1)))) else (none)) else (none)
end
def runnellaw4_small.f (k : Nat) (l0 : List (S30)) : Option (Bool) := if (l0.length : Int) > 30 then (some false) else (runnellaw4_small.l0 k l0 0)
theorem runnellaw4_small.mono_l : ∀ k, (∀ y0 y1, LeO (runnellaw4_small.l0 k y0 y1) (runnellaw4_small.l0 (k + 1) y0 y1)) ∧ (∀ y0 y1 y2, LeO (runnellaw4_small.l1 k y0 y1 y2) (runnellaw4_small.l1 (k + 1) y0 y1 y2))
  | 0 => ⟨fun _ _ r h => by simp [runnellaw4_small.l0] at h, fun _ _ _ r h => by simp [runnellaw4_small.l1] at h⟩
  | k + 1 => by
    obtain ⟨ih0, ih1⟩ := runnellaw4_small.mono_l k
    refine ⟨?_, ?_⟩
    · intro y0 y1
      unfold runnellaw4_small.l0
      repeat' first
      | (with_reducible exact ih0 _ _)
      | (with_reducible exact ih1 _ _ _)
      | (with_reducible exact LeO.refl _)
      | (with_reducible exact LeO.none _)
      | (with_reducible refine LeO.ite ?_ ?_)
      | (with_reducible refine LeO.bind ?_ (fun _ => ?_))
      | exact ih0 _ _
      | exact ih1 _ _ _
      | exact LeO.none _
      | refine LeO.ite ?_ ?_
      | refine LeO.bind ?_ (fun _ => ?_)
    · intro y0 y1 y2
      unfold runnellaw4_small.l1
      repeat' first
      | (with_reducible exact ih0 _ _)
      | (with_reducible exact ih1 _ _ _)
      | (with_reducible exact LeO.refl _)
      | (with_reducible exact LeO.none _)
      | (with_reducible refine LeO.ite ?_ ?_)
      | (with_reducible refine LeO.bind ?_ (fun _ => ?_))
      | exact ih0 _ _
      | exact ih1 _ _ _
      | exact LeO.none _
      | refine LeO.ite ?_ ?_
      | refine LeO.bind ?_ (fun _ => ?_)
theorem runnellaw4_small.mono : ∀ a0 k, LeO (runnellaw4_small.f k a0) (runnellaw4_small.f (k + 1) a0) := by
  intro a0 k
  obtain ⟨ih0, ih1⟩ := runnellaw4_small.mono_l k
  unfold runnellaw4_small.f
  repeat' first
      | (with_reducible exact ih0 _ _)
      | (with_reducible exact ih1 _ _ _)
      | (with_reducible exact LeO.refl _)
      | (with_reducible exact LeO.none _)
      | (with_reducible refine LeO.ite ?_ ?_)
      | (with_reducible refine LeO.bind ?_ (fun _ => ?_))
      | exact ih0 _ _
      | exact ih1 _ _ _
      | exact LeO.none _
      | refine LeO.ite ?_ ?_
      | refine LeO.bind ?_ (fun _ => ?_)
set_option maxHeartbeats 8000000 in
set_option maxRecDepth 100000 in
theorem runnellaw4_small.calls (k : Nat) (A0 : Option Addr) (c0 : Nat) (l0 : List (S30)) (r : Bool) (w : World) (hr0 : Kd.C k30 w A0 l0.length l0) (hc0 : l0.length ≤ c0) (h : runnellaw4_small.f k l0 = some r) :
    Calls Try.prog 9 #[.slice A0 l0.length c0] w fun e w' => e = .returned (.bool r) ∧ Drawn0 w w' := by
  have HR0 := Aside0.mk hr0
  have HC0 := Aside0.mk hc0
  clear hr0 hc0
  have H : (if (l0.length : Int) > 30 then (some false) else (runnellaw4_small.l0 k l0 0)) = some r := h
  clear h
  by_cases c2 : (l0.length : Int) > 30
  · rw [if_pos c2] at H
    have c2b0 : decide (30 < (l0.length : Int)) = true := decide_eq_true c2
    have c2b1 : decide (30 < l0.length) = true := decide_eq_true (by omega)
    clear c2
    obtain rfl := Option.some.inj H
    go_enter Try.func9, Try.ntmps9
    go_wp2
    go_ret
    exact ⟨by first | rfl | (simp; done) | (simp [*]; done), by repeat (first | exact Drawn0.refl _ | apply Drawn0.step)⟩
  · rw [if_neg c2] at H
    have c2b0 : decide (30 < (l0.length : Int)) = false := decide_eq_false c2
    have c2b1 : decide (30 < l0.length) = false := decide_eq_false (by omega)
    clear c2
    have H' := Aside0.mk H
    clear H
    go_enter Try.func9, Try.ntmps9
    go_wp2
    go_loopg [3] k (fun kq v3 w' => ∃ (x3_1 : Int), v3 = .int .i64 x3_1 ∧ Aside0 (runnellaw4_small.l0 kq l0 x3_1 = some r) ∧ Aside0 (kq ≤ k) ∧ Drawn0 w w')
    case atStart => exact ⟨(0), (by first | rfl | (simp; done) | (simp [*]; done)), H', ⟨Nat.le_refl _⟩, by repeat (first | exact Drawn0.refl _ | apply Drawn0.step)⟩
    case round =>
      clear H'
      try clear c2
      try clear c2b0
      try clear c2b1
      try clear p2
      obtain ⟨x3_1, rfl, HA, HK1, ⟨m1, rfl⟩⟩ := hrel
      cases gk with
      | zero => exact absurd HA.out (by simp [runnellaw4_small.l0])
      | succ k1 =>
        have H := HA.out
        clear HA
        simp only [runnellaw4_small.l0] at H
        by_cases c3 : x3_1 < (l0.length : Int)
        · rw [if_pos c3] at H
          have c3b0 : decide (x3_1 < (l0.length : Int)) = true := decide_eq_true c3
          clear c3
          by_cases c4 : 0 ≤ x3_1
          · rw [if_pos c4] at H
            have c4b0 : decide (0 ≤ x3_1) = true := decide_eq_true c4
            clear c4
            by_cases c5 : (((rd_T30 l0 x3_1).f0).length : Int) > 200
            · rw [if_pos c5] at H
              have c5b0 : decide (200 < (((rd_T30 l0 x3_1).f0).length : Int)) = true := decide_eq_true c5
              have c5b1 : decide (200 < ((rd_T30 l0 x3_1).f0).length) = true := decide_eq_true (by omega)
              clear c5
              obtain rfl := Option.some.inj H
              have p151 : 0 ≤ (x3_1 : Int) := of_decide_eq_true (by first | (with_reducible assumption) | assumption)
              have q151 : x3_1 < (l0.length : Int) := of_decide_eq_true (by first | (with_reducible assumption) | assumption)
              obtain ⟨ad151, A151_0, c151_0, e151, hx151_0, hx151_1, hl151_0, hi151_0⟩ := at_T30 HR0.out x3_1 p151 q151
              cases e151
              have HR151_0 := Aside0.mk hi151_0
              have HC151_0 := Aside0.mk hl151_0
              clear hi151_0 hl151_0
              replace p151 := eq_true p151
              replace q151 := eq_true q151
              go_wp2
              go_ret
              exact ⟨by first | rfl | (simp; done) | (simp [*]; done), by repeat (first | exact Drawn0.refl _ | apply Drawn0.step)⟩
            · rw [if_neg c5] at H
              have c5b0 : decide (200 < (((rd_T30 l0 x3_1).f0).length : Int)) = false := decide_eq_false c5
              have c5b1 : decide (200 < ((rd_T30 l0 x3_1).f0).length) = false := decide_eq_false (by omega)
              clear c5
              have H' := Aside0.mk H
              clear H
              have p151 : 0 ≤ (x3_1 : Int) := of_decide_eq_true (by first | (with_reducible assumption) | assumption)
              have q151 : x3_1 < (l0.length : Int) := of_decide_eq_true (by first | (with_reducible assumption) | assumption)
              obtain ⟨ad151, A151_0, c151_0, e151, hx151_0, hx151_1, hl151_0, hi151_0⟩ := at_T30 HR0.out x3_1 p151 q151
              cases e151
              have HR151_0 := Aside0.mk hi151_0
              have HC151_0 := Aside0.mk hl151_0
              clear hi151_0 hl151_0
              replace p151 := eq_true p151
              replace q151 := eq_true q151
              go_wp2
              go_loopg [4] k1 (fun kq v4 w' => ∃ (x4_2 : Int), v4 = .int .i64 x4_2 ∧ Aside0 (runnellaw4_small.l1 kq l0 x3_1 x4_2 = some r) ∧ Aside0 (kq ≤ k1) ∧ Drawn0 w w')
              case atStart => exact ⟨(0), (by first | rfl | (simp; done) | (simp [*]; done)), H', ⟨Nat.le_refl _⟩, by repeat (first | exact Drawn0.refl _ | apply Drawn0.step)⟩
              case round =>
                clear H'
                try clear c1
                try clear p1
                try clear q1
                try clear hx1
                try clear c2
                try clear c2b0
                try clear c2b1
                try clear p2
                try clear c3
                try clear c3b0
                try clear c4
                try clear c4b0
                try clear c5
                try clear c5b0
                try clear c5b1
                try clear hx151_0
                try clear hx151_1
                try clear p151
                try clear p2
                try clear q151
                obtain ⟨x4_2, rfl, HA, HK2, ⟨m2, rfl⟩⟩ := hrel
                cases gk with
                | zero => exact absurd HA.out (by simp [runnellaw4_small.l1])
                | succ k2 =>
                  have H := HA.out
                  clear HA
                  simp only [runnellaw4_small.l1] at H
                  by_cases c6 : 0 ≤ x3_1
                  · rw [if_pos c6] at H
                    have c6b0 : decide (0 ≤ x3_1) = true := decide_eq_true c6
                    clear c6
                    by_cases c7 : x3_1 < (l0.length : Int)
                    · rw [if_pos c7] at H
                      have c7b0 : decide (x3_1 < (l0.length : Int)) = true := decide_eq_true c7
                      clear c7
                      by_cases c8 : x4_2 < (((rd_T30 l0 x3_1).f0).length : Int)
                      · rw [if_pos c8] at H
                        have c8b0 : decide (x4_2 < (((rd_T30 l0 x3_1).f0).length : Int)) = true := decide_eq_true c8
                        clear c8
                        by_cases c9 : 0 ≤ x4_2
                        · rw [if_pos c9] at H
                          have c9b0 : decide (0 ≤ x4_2) = true := decide_eq_true c9
                          clear c9
                          by_cases c10 : (((rd_T24 ((rd_T30 l0 x3_1).f0) x4_2).f4).length : Int) > 200
                          · rw [if_pos c10] at H
                            have c10b0 : decide (200 < (((rd_T24 ((rd_T30 l0 x3_1).f0) x4_2).f4).length : Int)) = true := decide_eq_true c10
                            have c10b1 : decide (200 < ((rd_T24 ((rd_T30 l0 x3_1).f0) x4_2).f4).length) = true := decide_eq_true (by omega)
                            clear c10
                            obtain rfl := Option.some.inj H
                            have p152 : 0 ≤ (x3_1 : Int) := of_decide_eq_true (by first | (with_reducible assumption) | assumption)
                            have q152 : x3_1 < (l0.length : Int) := of_decide_eq_true (by first | (with_reducible assumption) | assumption)
                            obtain ⟨ad152, A152_0, c152_0, e152, hx152_0, hx152_1, hl152_0, hi152_0⟩ := at_T30 HR0.out x3_1 p152 q152
                            obtain rfl : ad151 = ad152 := (by injection e152)
                            have HR152_0 := Aside0.mk hi152_0
                            have HC152_0 := Aside0.mk hl152_0
                            clear hi152_0 hl152_0
                            replace p152 := eq_true p152
                            replace q152 := eq_true q152
                            have p153 : 0 ≤ (x3_1 : Int) := of_decide_eq_true (by first | (with_reducible assumption) | assumption)
                            have q153 : x3_1 < (l0.length : Int) := of_decide_eq_true (by first | (with_reducible assumption) | assumption)
                            obtain ⟨ad153, A153_0, c153_0, e153, hx153_0, hx153_1, hl153_0, hi153_0⟩ := at_T30 HR0.out x3_1 p153 q153
                            obtain rfl : ad151 = ad153 := (by injection e153)
                            have HR153_0 := Aside0.mk hi153_0
                            have HC153_0 := Aside0.mk hl153_0
                            clear hi153_0 hl153_0
                            replace p153 := eq_true p153
                            replace q153 := eq_true q153
                            have ea_ := Option.some.inj (hx152_0.symm.trans hx153_0)
                            injection ea_ with ea_ en_ ec_
                            subst ea_
                            subst ec_
                            clear en_
                            have p154 : 0 ≤ (x4_2 : Int) := of_decide_eq_true (by first | (with_reducible assumption) | assumption)
                            have q154 : x4_2 < (((rd_T30 l0 x3_1).f0).length : Int) := of_decide_eq_true (by first | (with_reducible assumption) | assumption)
                            obtain ⟨ad154, A154_4, c154_4, e154, hx154_0, hx154_1, hx154_2, hx154_3, hx154_4, hl154_4, hi154_4⟩ := at_T24 HR153_0.out x4_2 p154 q154
                            cases e154
                            have HR154_4 := Aside0.mk hi154_4
                            have HC154_4 := Aside0.mk hl154_4
                            clear hi154_4 hl154_4
                            replace p154 := eq_true p154
                            replace q154 := eq_true q154
                            go_wp2
                            go_ret
                            exact ⟨by first | rfl | (simp; done) | (simp [*]; done), by repeat (first | exact Drawn0.refl _ | apply Drawn0.step)⟩
                          · rw [if_neg c10] at H
                            have c10b0 : decide (200 < (((rd_T24 ((rd_T30 l0 x3_1).f0) x4_2).f4).length : Int)) = false := decide_eq_false c10
                            have c10b1 : decide (200 < ((rd_T24 ((rd_T30 l0 x3_1).f0) x4_2).f4).length) = false := decide_eq_false (by omega)
                            clear c10
                            by_cases c11 : (((rd_T24 ((rd_T30 l0 x3_1).f0) x4_2).f3).size : Int) > 200
                            · rw [if_pos c11] at H
                              have c11b0 : decide (200 < (((rd_T24 ((rd_T30 l0 x3_1).f0) x4_2).f3).size : Int)) = true := decide_eq_true c11
                              have c11b1 : decide (200 < ((rd_T24 ((rd_T30 l0 x3_1).f0) x4_2).f3).size) = true := decide_eq_true (by omega)
                              clear c11
                              obtain rfl := Option.some.inj H
                              have p152 : 0 ≤ (x3_1 : Int) := of_decide_eq_true (by first | (with_reducible assumption) | assumption)
                              have q152 : x3_1 < (l0.length : Int) := of_decide_eq_true (by first | (with_reducible assumption) | assumption)
                              obtain ⟨ad152, A152_0, c152_0, e152, hx152_0, hx152_1, hl152_0, hi152_0⟩ := at_T30 HR0.out x3_1 p152 q152
                              obtain rfl : ad151 = ad152 := (by injection e152)
                              have HR152_0 := Aside0.mk hi152_0
                              have HC152_0 := Aside0.mk hl152_0
                              clear hi152_0 hl152_0
                              replace p152 := eq_true p152
                              replace q152 := eq_true q152
                              have p153 : 0 ≤ (x3_1 : Int) := of_decide_eq_true (by first | (with_reducible assumption) | assumption)
                              have q153 : x3_1 < (l0.length : Int) := of_decide_eq_true (by first | (with_reducible assumption) | assumption)
                              obtain ⟨ad153, A153_0, c153_0, e153, hx153_0, hx153_1, hl153_0, hi153_0⟩ := at_T30 HR0.out x3_1 p153 q153
                              obtain rfl : ad151 = ad153 := (by injection e153)
                              have HR153_0 := Aside0.mk hi153_0
                              have HC153_0 := Aside0.mk hl153_0
                              clear hi153_0 hl153_0
                              replace p153 := eq_true p153
                              replace q153 := eq_true q153
                              have ea_ := Option.some.inj (hx152_0.symm.trans hx153_0)
                              injection ea_ with ea_ en_ ec_
                              subst ea_
                              subst ec_
                              clear en_
                              have p154 : 0 ≤ (x4_2 : Int) := of_decide_eq_true (by first | (with_reducible assumption) | assumption)
                              have q154 : x4_2 < (((rd_T30 l0 x3_1).f0).length : Int) := of_decide_eq_true (by first | (with_reducible assumption) | assumption)
                              obtain ⟨ad154, A154_4, c154_4, e154, hx154_0, hx154_1, hx154_2, hx154_3, hx154_4, hl154_4, hi154_4⟩ := at_T24 HR153_0.out x4_2 p154 q154
                              cases e154
                              have HR154_4 := Aside0.mk hi154_4
                              have HC154_4 := Aside0.mk hl154_4
                              clear hi154_4 hl154_4
                              replace p154 := eq_true p154
                              replace q154 := eq_true q154
                              have p155 : 0 ≤ (x3_1 : Int) := of_decide_eq_true (by first | (with_reducible assumption) | assumption)
                              have q155 : x3_1 < (l0.length : Int) := of_decide_eq_true (by first | (with_reducible assumption) | assumption)
                              obtain ⟨ad155, A155_0, c155_0, e155, hx155_0, hx155_1, hl155_0, hi155_0⟩ := at_T30 HR0.out x3_1 p155 q155
                              obtain rfl : ad151 = ad155 := (by injection e155)
                              have HR155_0 := Aside0.mk hi155_0
                              have HC155_0 := Aside0.mk hl155_0
                              clear hi155_0 hl155_0
                              replace p155 := eq_true p155
                              replace q155 := eq_true q155
                              have ea_ := Option.some.inj (hx152_0.symm.trans hx155_0)
                              injection ea_ with ea_ en_ ec_
                              subst ea_
                              subst ec_
                              clear en_
                              have p156 : 0 ≤ (x4_2 : Int) := of_decide_eq_true (by first | (with_reducible assumption) | assumption)
                              have q156 : x4_2 < (((rd_T30 l0 x3_1).f0).length : Int) := of_decide_eq_true (by first | (with_reducible assumption) | assumption)
                              obtain ⟨ad156, A156_4, c156_4, e156, hx156_0, hx156_1, hx156_2, hx156_3, hx156_4, hl156_4, hi156_4⟩ := at_T24 HR155_0.out x4_2 p156 q156
                              cases e156
                              have HR156_4 := Aside0.mk hi156_4
                              have HC156_4 := Aside0.mk hl156_4
                              clear hi156_4 hl156_4
                              replace p156 := eq_true p156
                              replace q156 := eq_true q156
                              go_wp2
                              go_ret
                              exact ⟨by first | rfl | (simp; done) | (simp [*]; done), by repeat (first | exact Drawn0.refl _ | apply Drawn0.step)⟩
                            · rw [if_neg c11] at H
                              have c11b0 : decide (200 < (((rd_T24 ((rd_T30 l0 x3_1).f0) x4_2).f3).size : Int)) = false := decide_eq_false c11
                              have c11b1 : decide (200 < ((rd_T24 ((rd_T30 l0 x3_1).f0) x4_2).f3).size) = false := decide_eq_false (by omega)
                              clear c11
                              have H' := Aside0.mk H
                              clear H
                              have p152 : 0 ≤ (x3_1 : Int) := of_decide_eq_true (by first | (with_reducible assumption) | assumption)
                              have q152 : x3_1 < (l0.length : Int) := of_decide_eq_true (by first | (with_reducible assumption) | assumption)
                              obtain ⟨ad152, A152_0, c152_0, e152, hx152_0, hx152_1, hl152_0, hi152_0⟩ := at_T30 HR0.out x3_1 p152 q152
                              obtain rfl : ad151 = ad152 := (by injection e152)
                              have HR152_0 := Aside0.mk hi152_0
                              have HC152_0 := Aside0.mk hl152_0
                              clear hi152_0 hl152_0
                              replace p152 := eq_true p152
                              replace q152 := eq_true q152
                              have p153 : 0 ≤ (x3_1 : Int) := of_decide_eq_true (by first | (with_reducible assumption) | assumption)
                              have q153 : x3_1 < (l0.length : Int) := of_decide_eq_true (by first | (with_reducible assumption) | assumption)
                              obtain ⟨ad153, A153_0, c153_0, e153, hx153_0, hx153_1, hl153_0, hi153_0⟩ := at_T30 HR0.out x3_1 p153 q153
                              obtain rfl : ad151 = ad153 := (by injection e153)
                              have HR153_0 := Aside0.mk hi153_0
                              have HC153_0 := Aside0.mk hl153_0
                              clear hi153_0 hl153_0
                              replace p153 := eq_true p153
                              replace q153 := eq_true q153
                              have ea_ := Option.some.inj (hx152_0.symm.trans hx153_0)
                              injection ea_ with ea_ en_ ec_
                              subst ea_
                              subst ec_
                              clear en_
                              have p154 : 0 ≤ (x4_2 : Int) := of_decide_eq_true (by first | (with_reducible assumption) | assumption)
                              have q154 : x4_2 < (((rd_T30 l0 x3_1).f0).length : Int) := of_decide_eq_true (by first | (with_reducible assumption) | assumption)
                              obtain ⟨ad154, A154_4, c154_4, e154, hx154_0, hx154_1, hx154_2, hx154_3, hx154_4, hl154_4, hi154_4⟩ := at_T24 HR153_0.out x4_2 p154 q154
                              cases e154
                              have HR154_4 := Aside0.mk hi154_4
                              have HC154_4 := Aside0.mk hl154_4
                              clear hi154_4 hl154_4
                              replace p154 := eq_true p154
                              replace q154 := eq_true q154
                              have p155 : 0 ≤ (x3_1 : Int) := of_decide_eq_true (by first | (with_reducible assumption) | assumption)
                              have q155 : x3_1 < (l0.length : Int) := of_decide_eq_true (by first | (with_reducible assumption) | assumption)
                              obtain ⟨ad155, A155_0, c155_0, e155, hx155_0, hx155_1, hl155_0, hi155_0⟩ := at_T30 HR0.out x3_1 p155 q155
                              obtain rfl : ad151 = ad155 := (by injection e155)
                              have HR155_0 := Aside0.mk hi155_0
                              have HC155_0 := Aside0.mk hl155_0
                              clear hi155_0 hl155_0
                              replace p155 := eq_true p155
                              replace q155 := eq_true q155
                              have ea_ := Option.some.inj (hx152_0.symm.trans hx155_0)
                              injection ea_ with ea_ en_ ec_
                              subst ea_
                              subst ec_
                              clear en_
                              have p156 : 0 ≤ (x4_2 : Int) := of_decide_eq_true (by first | (with_reducible assumption) | assumption)
                              have q156 : x4_2 < (((rd_T30 l0 x3_1).f0).length : Int) := of_decide_eq_true (by first | (with_reducible assumption) | assumption)
                              obtain ⟨ad156, A156_4, c156_4, e156, hx156_0, hx156_1, hx156_2, hx156_3, hx156_4, hl156_4, hi156_4⟩ := at_T24 HR155_0.out x4_2 p156 q156
                              cases e156
                              have HR156_4 := Aside0.mk hi156_4
                              have HC156_4 := Aside0.mk hl156_4
                              clear hi156_4 hl156_4
                              replace p156 := eq_true p156
                              replace q156 := eq_true q156
                              go_wp2
                              go_roundg k2
                              case measure => have := HK1.out; have := HK2.out; omega
                              case rel => exact ⟨(wrap64 (x4_2 + 1)), (by first | rfl | (simp; done) | (simp [*]; done)), H', ⟨by have := HK1.out; have := HK2.out; omega⟩, by repeat (first | exact Drawn0.refl _ | apply Drawn0.step)⟩
                        · rw [if_neg c9] at H
                          exact absurd H (by simp)
                      · rw [if_neg c8] at H
                        have c8b0 : decide (x4_2 < (((rd_T30 l0 x3_1).f0).length : Int)) = false := decide_eq_false c8
                        clear c8
                        have H' := Aside0.mk H
                        clear H
                        have p152 : 0 ≤ (x3_1 : Int) := of_decide_eq_true (by first | (with_reducible assumption) | assumption)
                        have q152 : x3_1 < (l0.length : Int) := of_decide_eq_true (by first | (with_reducible assumption) | assumption)
                        obtain ⟨ad152, A152_0, c152_0, e152, hx152_0, hx152_1, hl152_0, hi152_0⟩ := at_T30 HR0.out x3_1 p152 q152
                        obtain rfl : ad151 = ad152 := (by injection e152)
                        have HR152_0 := Aside0.mk hi152_0
                        have HC152_0 := Aside0.mk hl152_0
                        clear hi152_0 hl152_0
                        replace p152 := eq_true p152
                        replace q152 := eq_true q152
                        go_wp2
                        go_roundg k2
                        case measure => have := HK1.out; have := HK2.out; omega
                        case rel => exact ⟨(wrap64 (x3_1 + 1)), (by first | rfl | (simp; done) | (simp [*]; done)), H', ⟨by have := HK1.out; have := HK2.out; omega⟩, by repeat (first | exact Drawn0.refl _ | apply Drawn0.step)⟩
                    · rw [if_neg c7] at H
                      exact absurd H (by simp)
                  · rw [if_neg c6] at H
                    exact absurd H (by simp)
          · rw [if_neg c4] at H
            exact absurd H (by simp)
        · rw [if_neg c3] at H
          have c3b0 : decide (x3_1 < (l0.length : Int)) = false := decide_eq_false c3
          clear c3
          obtain rfl := Option.some.inj H
          go_wp2
          go_ret
          exact ⟨by first | rfl | (simp; done) | (simp [*]; done), by repeat (first | exact Drawn0.refl _ | apply Drawn0.step)⟩

end Go.Proofs.Ytpggidmpkhmijaa.P
