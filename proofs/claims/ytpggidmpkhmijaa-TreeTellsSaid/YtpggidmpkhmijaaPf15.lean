import Derived.Test.YtpggidmpkhmijaaRose
import Derived.Test.YtpggidmpkhmijaaWWords
import Derived.WalkKit
import Derived.ProofKit
import Derived.OpenShut
import Derived.ShutString
import Derived.ChangeOld
import Derived.Below
import Derived.SizedLaws
import Derived.Deep.Slices
import Derived.Test.YtpggidmpkhmijaaPf10
import Derived.Test.YtpggidmpkhmijaaPf12
import Derived.Test.YtpggidmpkhmijaaPf26
set_option linter.unusedVariables false
set_option linter.unusedSimpArgs false
namespace Go.Proofs.Ytpggidmpkhmijaa.P
open Go.RowKit Go.Proofs.YtpggidmpkhmijaaW.PrintWords Go.Proofs.YtpggidmpkhmijaaW.PrintLast Go.Proofs.YtpggidmpkhmijaaW.PrintMore
attribute [local go_sem] zBa zAY max_two min_two zAR zAT zAZ zAX
mutual
def zAD.l0 : Nat → List (S30) → Int → Option (Bool)
 | 0,_,_ => none
 | k + 1,x0,x3 => if x3 < (x0.length : Int) then (if 0 ≤ x3 then (if (((rd_T30 x0 x3).f0).length : Int) > 200 then (some false) else (zAD.l1 k x0 x3 0)) else (none)) else (some true)
def zAD.l1 : Nat → List (S30) → Int → Int → Option (Bool)
 | 0,_,_,_ => none
 | k + 1,x0,x3,x4 => if 0 ≤ x3 then (if x3 < (x0.length : Int) then (if x4 < (((rd_T30 x0 x3).f0).length : Int) then (if 0 ≤ x4 then (if (((rd_T24 ((rd_T30 x0 x3).f0) x4).f4).length : Int) > 200 then (some false) else (if (((rd_T24 ((rd_T30 x0 x3).f0) x4).f3).size : Int) > 200 then (some false) else (zAD.l1 k x0 x3 (wrap64 (x4 + 1))))) else (none)) else (zAD.l0 k x0 (wrap64 (x3 + 1)))) else (none)) else (none)
end
def zAD.f (k : Nat) (l0 : List (S30)) : Option (Bool):=if (l0.length : Int) > 30 then (some false) else (zAD.l0 k l0 0)
set_option maxHeartbeats 8000000 in
set_option maxRecDepth 100000 in
theorem zAD.calls (k : Nat) (A0 : Option Addr) (c0 : Nat) (l0 : List (S30)) (r : Bool) (w : World) (hr0 : Kd.C k30 w A0 l0.length l0) (hc0 : l0.length ≤ c0) (h : zAD.f k l0 = some r) :
  Calls Try.prog 9 #[.slice A0 l0.length c0] w fun e w' => e = .returned (.bool r) ∧ Drawn0 w w':=by
 have HR0:=Aside0.mk hr0
 have HC0:=Aside0.mk hc0
 clear hr0 hc0
 have H : (if (l0.length : Int) > 30 then (some false) else (zAD.l0 k l0 0)) = some r:=h
 clear h
 by_cases c2 : (l0.length : Int) > 30
 ·rw [if_pos c2] at H
  have c2b0 : decide (30 < (l0.length : Int)) = true:=decide_eq_true c2
  have c2b1 : decide (30 < l0.length) = true:=decide_eq_true (by omega)
  clear c2
  obtain rfl:=Option.some.inj H
  go_enter Try.func9,Try.ntmps9
  go_wp2
  go_ret
  exact ⟨by first | rfl | (simp; done) | (simp [*]; done),by repeat (first | exact Drawn0.refl _ | apply Drawn0.step)⟩
 ·rw [if_neg c2] at H
  have c2b0 : decide (30 < (l0.length : Int)) = false:=decide_eq_false c2
  have c2b1 : decide (30 < l0.length) = false:=decide_eq_false (by omega)
  clear c2
  have H':=Aside0.mk H
  clear H
  go_enter Try.func9,Try.ntmps9
  go_wp2
  go_loopg [3] k (fun kq v3 w' => ∃ (x3_1 : Int),v3 = .int .i64 x3_1 ∧ Aside0 (zAD.l0 kq l0 x3_1 = some r) ∧ Aside0 (kq ≤ k) ∧ Drawn0 w w')
  case atStart => exact ⟨(0),(by first | rfl | (simp; done) | (simp [*]; done)),H',⟨Nat.le_refl _⟩,by repeat (first | exact Drawn0.refl _ | apply Drawn0.step)⟩
  case round =>
   clear H'
   try clear c2
   try clear c2b0
   try clear c2b1
   try clear p2
   obtain ⟨x3_1,rfl,HA,HK1,⟨m1,rfl⟩⟩:=hrel
   cases gk with
   | zero => exact absurd HA.out (by simp [zAD.l0])
   | succ k1 =>
    have H:=HA.out
    clear HA
    simp only [zAD.l0] at H
    by_cases c3 : x3_1 < (l0.length : Int)
    ·rw [if_pos c3] at H
     have c3b0 : decide (x3_1 < (l0.length : Int)) = true:=decide_eq_true c3
     clear c3
     by_cases c4 : 0 ≤ x3_1
     ·rw [if_pos c4] at H
      have c4b0 : decide (0 ≤ x3_1) = true:=decide_eq_true c4
      clear c4
      by_cases c5 : (((rd_T30 l0 x3_1).f0).length : Int) > 200
      ·rw [if_pos c5] at H
       have c5b0 : decide (200 < (((rd_T30 l0 x3_1).f0).length : Int)) = true:=decide_eq_true c5
       have c5b1 : decide (200 < ((rd_T30 l0 x3_1).f0).length) = true:=decide_eq_true (by omega)
       clear c5
       obtain rfl:=Option.some.inj H
       have p151 : 0 ≤ (x3_1 : Int):=of_decide_eq_true (by first | (with_reducible assumption) | assumption)
       have q151 : x3_1 < (l0.length : Int):=of_decide_eq_true (by first | (with_reducible assumption) | assumption)
       obtain ⟨ad151,A151_0,c151_0,e151,hx151_0,hx151_1,hl151_0,hi151_0⟩:=at_T30 HR0.out x3_1 p151 q151
       cases e151
       have HR151_0:=Aside0.mk hi151_0
       have HC151_0:=Aside0.mk hl151_0
       clear hi151_0 hl151_0
       replace p151:=eq_true p151
       replace q151:=eq_true q151
       go_wp2
       go_ret
       exact ⟨by first | rfl | (simp; done) | (simp [*]; done),by repeat (first | exact Drawn0.refl _ | apply Drawn0.step)⟩
      ·rw [if_neg c5] at H
       have c5b0 : decide (200 < (((rd_T30 l0 x3_1).f0).length : Int)) = false:=decide_eq_false c5
       have c5b1 : decide (200 < ((rd_T30 l0 x3_1).f0).length) = false:=decide_eq_false (by omega)
       clear c5
       have H':=Aside0.mk H
       clear H
       have p151 : 0 ≤ (x3_1 : Int):=of_decide_eq_true (by first | (with_reducible assumption) | assumption)
       have q151 : x3_1 < (l0.length : Int):=of_decide_eq_true (by first | (with_reducible assumption) | assumption)
       obtain ⟨ad151,A151_0,c151_0,e151,hx151_0,hx151_1,hl151_0,hi151_0⟩:=at_T30 HR0.out x3_1 p151 q151
       cases e151
       have HR151_0:=Aside0.mk hi151_0
       have HC151_0:=Aside0.mk hl151_0
       clear hi151_0 hl151_0
       replace p151:=eq_true p151
       replace q151:=eq_true q151
       go_wp2
       go_loopg [4] k1 (fun kq v4 w' => ∃ (x4_2 : Int),v4 = .int .i64 x4_2 ∧ Aside0 (zAD.l1 kq l0 x3_1 x4_2 = some r) ∧ Aside0 (kq ≤ k1) ∧ Drawn0 w w')
       case atStart => exact ⟨(0),(by first | rfl | (simp; done) | (simp [*]; done)),H',⟨Nat.le_refl _⟩,by repeat (first | exact Drawn0.refl _ | apply Drawn0.step)⟩
       case round =>
        clear H'
        try clear c1
        try clear p1
        try clear q1
        try clear hx1
        try clear c2
        try clear c2b0
        try clear c2b1
        try clear p2
        try clear c3
        try clear c3b0
        try clear c4
        try clear c4b0
        try clear c5
        try clear c5b0
        try clear c5b1
        try clear hx151_0
        try clear hx151_1
        try clear p151
        try clear p2
        try clear q151
        obtain ⟨x4_2,rfl,HA,HK2,⟨m2,rfl⟩⟩:=hrel
        cases gk with
        | zero => exact absurd HA.out (by simp [zAD.l1])
        | succ k2 =>
         have H:=HA.out
         clear HA
         simp only [zAD.l1] at H
         by_cases c6 : 0 ≤ x3_1
         ·rw [if_pos c6] at H
          have c6b0 : decide (0 ≤ x3_1) = true:=decide_eq_true c6
          clear c6
          by_cases c7 : x3_1 < (l0.length : Int)
          ·rw [if_pos c7] at H
           have c7b0 : decide (x3_1 < (l0.length : Int)) = true:=decide_eq_true c7
           clear c7
           by_cases c8 : x4_2 < (((rd_T30 l0 x3_1).f0).length : Int)
           ·rw [if_pos c8] at H
            have c8b0 : decide (x4_2 < (((rd_T30 l0 x3_1).f0).length : Int)) = true:=decide_eq_true c8
            clear c8
            by_cases c9 : 0 ≤ x4_2
            ·rw [if_pos c9] at H
             have c9b0 : decide (0 ≤ x4_2) = true:=decide_eq_true c9
             clear c9
             by_cases c10 : (((rd_T24 ((rd_T30 l0 x3_1).f0) x4_2).f4).length : Int) > 200
             ·rw [if_pos c10] at H
              have c10b0 : decide (200 < (((rd_T24 ((rd_T30 l0 x3_1).f0) x4_2).f4).length : Int)) = true:=decide_eq_true c10
              have c10b1 : decide (200 < ((rd_T24 ((rd_T30 l0 x3_1).f0) x4_2).f4).length) = true:=decide_eq_true (by omega)
              clear c10
              obtain rfl:=Option.some.inj H
              have p152 : 0 ≤ (x3_1 : Int):=of_decide_eq_true (by first | (with_reducible assumption) | assumption)
              have q152 : x3_1 < (l0.length : Int):=of_decide_eq_true (by first | (with_reducible assumption) | assumption)
              obtain ⟨ad152,A152_0,c152_0,e152,hx152_0,hx152_1,hl152_0,hi152_0⟩:=at_T30 HR0.out x3_1 p152 q152
              obtain rfl : ad151 = ad152:=(by injection e152)
              have HR152_0:=Aside0.mk hi152_0
              have HC152_0:=Aside0.mk hl152_0
              clear hi152_0 hl152_0
              replace p152:=eq_true p152
              replace q152:=eq_true q152
              have p153 : 0 ≤ (x3_1 : Int):=of_decide_eq_true (by first | (with_reducible assumption) | assumption)
              have q153 : x3_1 < (l0.length : Int):=of_decide_eq_true (by first | (with_reducible assumption) | assumption)
              obtain ⟨ad153,A153_0,c153_0,e153,hx153_0,hx153_1,hl153_0,hi153_0⟩:=at_T30 HR0.out x3_1 p153 q153
              obtain rfl : ad151 = ad153:=(by injection e153)
              have HR153_0:=Aside0.mk hi153_0
              have HC153_0:=Aside0.mk hl153_0
              clear hi153_0 hl153_0
              replace p153:=eq_true p153
              replace q153:=eq_true q153
              have ea_:=Option.some.inj (hx152_0.symm.trans hx153_0)
              injection ea_ with ea_ en_ ec_
              subst ea_
              subst ec_
              clear en_
              have p154 : 0 ≤ (x4_2 : Int):=of_decide_eq_true (by first | (with_reducible assumption) | assumption)
              have q154 : x4_2 < (((rd_T30 l0 x3_1).f0).length : Int):=of_decide_eq_true (by first | (with_reducible assumption) | assumption)
              obtain ⟨ad154,A154_4,c154_4,e154,hx154_0,hx154_1,hx154_2,hx154_3,hx154_4,hl154_4,hi154_4⟩:=at_T24 HR153_0.out x4_2 p154 q154
              cases e154
              have HR154_4:=Aside0.mk hi154_4
              have HC154_4:=Aside0.mk hl154_4
              clear hi154_4 hl154_4
              replace p154:=eq_true p154
              replace q154:=eq_true q154
              go_wp2
              go_ret
              exact ⟨by first | rfl | (simp; done) | (simp [*]; done),by repeat (first | exact Drawn0.refl _ | apply Drawn0.step)⟩
             ·rw [if_neg c10] at H
              have c10b0 : decide (200 < (((rd_T24 ((rd_T30 l0 x3_1).f0) x4_2).f4).length : Int)) = false:=decide_eq_false c10
              have c10b1 : decide (200 < ((rd_T24 ((rd_T30 l0 x3_1).f0) x4_2).f4).length) = false:=decide_eq_false (by omega)
              clear c10
              by_cases c11 : (((rd_T24 ((rd_T30 l0 x3_1).f0) x4_2).f3).size : Int) > 200
              ·rw [if_pos c11] at H
               have c11b0 : decide (200 < (((rd_T24 ((rd_T30 l0 x3_1).f0) x4_2).f3).size : Int)) = true:=decide_eq_true c11
               have c11b1 : decide (200 < ((rd_T24 ((rd_T30 l0 x3_1).f0) x4_2).f3).size) = true:=decide_eq_true (by omega)
               clear c11
               obtain rfl:=Option.some.inj H
               have p152 : 0 ≤ (x3_1 : Int):=of_decide_eq_true (by first | (with_reducible assumption) | assumption)
               have q152 : x3_1 < (l0.length : Int):=of_decide_eq_true (by first | (with_reducible assumption) | assumption)
               obtain ⟨ad152,A152_0,c152_0,e152,hx152_0,hx152_1,hl152_0,hi152_0⟩:=at_T30 HR0.out x3_1 p152 q152
               obtain rfl : ad151 = ad152:=(by injection e152)
               have HR152_0:=Aside0.mk hi152_0
               have HC152_0:=Aside0.mk hl152_0
               clear hi152_0 hl152_0
               replace p152:=eq_true p152
               replace q152:=eq_true q152
               have p153 : 0 ≤ (x3_1 : Int):=of_decide_eq_true (by first | (with_reducible assumption) | assumption)
               have q153 : x3_1 < (l0.length : Int):=of_decide_eq_true (by first | (with_reducible assumption) | assumption)
               obtain ⟨ad153,A153_0,c153_0,e153,hx153_0,hx153_1,hl153_0,hi153_0⟩:=at_T30 HR0.out x3_1 p153 q153
               obtain rfl : ad151 = ad153:=(by injection e153)
               have HR153_0:=Aside0.mk hi153_0
               have HC153_0:=Aside0.mk hl153_0
               clear hi153_0 hl153_0
               replace p153:=eq_true p153
               replace q153:=eq_true q153
               have ea_:=Option.some.inj (hx152_0.symm.trans hx153_0)
               injection ea_ with ea_ en_ ec_
               subst ea_
               subst ec_
               clear en_
               have p154 : 0 ≤ (x4_2 : Int):=of_decide_eq_true (by first | (with_reducible assumption) | assumption)
               have q154 : x4_2 < (((rd_T30 l0 x3_1).f0).length : Int):=of_decide_eq_true (by first | (with_reducible assumption) | assumption)
               obtain ⟨ad154,A154_4,c154_4,e154,hx154_0,hx154_1,hx154_2,hx154_3,hx154_4,hl154_4,hi154_4⟩:=at_T24 HR153_0.out x4_2 p154 q154
               cases e154
               have HR154_4:=Aside0.mk hi154_4
               have HC154_4:=Aside0.mk hl154_4
               clear hi154_4 hl154_4
               replace p154:=eq_true p154
               replace q154:=eq_true q154
               have p155 : 0 ≤ (x3_1 : Int):=of_decide_eq_true (by first | (with_reducible assumption) | assumption)
               have q155 : x3_1 < (l0.length : Int):=of_decide_eq_true (by first | (with_reducible assumption) | assumption)
               obtain ⟨ad155,A155_0,c155_0,e155,hx155_0,hx155_1,hl155_0,hi155_0⟩:=at_T30 HR0.out x3_1 p155 q155
               obtain rfl : ad151 = ad155:=(by injection e155)
               have HR155_0:=Aside0.mk hi155_0
               have HC155_0:=Aside0.mk hl155_0
               clear hi155_0 hl155_0
               replace p155:=eq_true p155
               replace q155:=eq_true q155
               have ea_:=Option.some.inj (hx152_0.symm.trans hx155_0)
               injection ea_ with ea_ en_ ec_
               subst ea_
               subst ec_
               clear en_
               have p156 : 0 ≤ (x4_2 : Int):=of_decide_eq_true (by first | (with_reducible assumption) | assumption)
               have q156 : x4_2 < (((rd_T30 l0 x3_1).f0).length : Int):=of_decide_eq_true (by first | (with_reducible assumption) | assumption)
               obtain ⟨ad156,A156_4,c156_4,e156,hx156_0,hx156_1,hx156_2,hx156_3,hx156_4,hl156_4,hi156_4⟩:=at_T24 HR155_0.out x4_2 p156 q156
               cases e156
               have HR156_4:=Aside0.mk hi156_4
               have HC156_4:=Aside0.mk hl156_4
               clear hi156_4 hl156_4
               replace p156:=eq_true p156
               replace q156:=eq_true q156
               go_wp2
               go_ret
               exact ⟨by first | rfl | (simp; done) | (simp [*]; done),by repeat (first | exact Drawn0.refl _ | apply Drawn0.step)⟩
              ·rw [if_neg c11] at H
               have c11b0 : decide (200 < (((rd_T24 ((rd_T30 l0 x3_1).f0) x4_2).f3).size : Int)) = false:=decide_eq_false c11
               have c11b1 : decide (200 < ((rd_T24 ((rd_T30 l0 x3_1).f0) x4_2).f3).size) = false:=decide_eq_false (by omega)
               clear c11
               have H':=Aside0.mk H
               clear H
               have p152 : 0 ≤ (x3_1 : Int):=of_decide_eq_true (by first | (with_reducible assumption) | assumption)
               have q152 : x3_1 < (l0.length : Int):=of_decide_eq_true (by first | (with_reducible assumption) | assumption)
               obtain ⟨ad152,A152_0,c152_0,e152,hx152_0,hx152_1,hl152_0,hi152_0⟩:=at_T30 HR0.out x3_1 p152 q152
               obtain rfl : ad151 = ad152:=(by injection e152)
               have HR152_0:=Aside0.mk hi152_0
               have HC152_0:=Aside0.mk hl152_0
               clear hi152_0 hl152_0
               replace p152:=eq_true p152
               replace q152:=eq_true q152
               have p153 : 0 ≤ (x3_1 : Int):=of_decide_eq_true (by first | (with_reducible assumption) | assumption)
               have q153 : x3_1 < (l0.length : Int):=of_decide_eq_true (by first | (with_reducible assumption) | assumption)
               obtain ⟨ad153,A153_0,c153_0,e153,hx153_0,hx153_1,hl153_0,hi153_0⟩:=at_T30 HR0.out x3_1 p153 q153
               obtain rfl : ad151 = ad153:=(by injection e153)
               have HR153_0:=Aside0.mk hi153_0
               have HC153_0:=Aside0.mk hl153_0
               clear hi153_0 hl153_0
               replace p153:=eq_true p153
               replace q153:=eq_true q153
               have ea_:=Option.some.inj (hx152_0.symm.trans hx153_0)
               injection ea_ with ea_ en_ ec_
               subst ea_
               subst ec_
               clear en_
               have p154 : 0 ≤ (x4_2 : Int):=of_decide_eq_true (by first | (with_reducible assumption) | assumption)
               have q154 : x4_2 < (((rd_T30 l0 x3_1).f0).length : Int):=of_decide_eq_true (by first | (with_reducible assumption) | assumption)
               obtain ⟨ad154,A154_4,c154_4,e154,hx154_0,hx154_1,hx154_2,hx154_3,hx154_4,hl154_4,hi154_4⟩:=at_T24 HR153_0.out x4_2 p154 q154
               cases e154
               have HR154_4:=Aside0.mk hi154_4
               have HC154_4:=Aside0.mk hl154_4
               clear hi154_4 hl154_4
               replace p154:=eq_true p154
               replace q154:=eq_true q154
               have p155 : 0 ≤ (x3_1 : Int):=of_decide_eq_true (by first | (with_reducible assumption) | assumption)
               have q155 : x3_1 < (l0.length : Int):=of_decide_eq_true (by first | (with_reducible assumption) | assumption)
               obtain ⟨ad155,A155_0,c155_0,e155,hx155_0,hx155_1,hl155_0,hi155_0⟩:=at_T30 HR0.out x3_1 p155 q155
               obtain rfl : ad151 = ad155:=(by injection e155)
               have HR155_0:=Aside0.mk hi155_0
               have HC155_0:=Aside0.mk hl155_0
               clear hi155_0 hl155_0
               replace p155:=eq_true p155
               replace q155:=eq_true q155
               have ea_:=Option.some.inj (hx152_0.symm.trans hx155_0)
               injection ea_ with ea_ en_ ec_
               subst ea_
               subst ec_
               clear en_
               have p156 : 0 ≤ (x4_2 : Int):=of_decide_eq_true (by first | (with_reducible assumption) | assumption)
               have q156 : x4_2 < (((rd_T30 l0 x3_1).f0).length : Int):=of_decide_eq_true (by first | (with_reducible assumption) | assumption)
               obtain ⟨ad156,A156_4,c156_4,e156,hx156_0,hx156_1,hx156_2,hx156_3,hx156_4,hl156_4,hi156_4⟩:=at_T24 HR155_0.out x4_2 p156 q156
               cases e156
               have HR156_4:=Aside0.mk hi156_4
               have HC156_4:=Aside0.mk hl156_4
               clear hi156_4 hl156_4
               replace p156:=eq_true p156
               replace q156:=eq_true q156
               go_wp2
               go_roundg k2
               case measure => have:=HK1.out; have:=HK2.out; omega
               case rel => exact ⟨(wrap64 (x4_2 + 1)),(by first | rfl | (simp; done) | (simp [*]; done)),H',⟨by have:=HK1.out; have:=HK2.out; omega⟩,by repeat (first | exact Drawn0.refl _ | apply Drawn0.step)⟩
            ·rw [if_neg c9] at H
             exact absurd H (by simp)
           ·rw [if_neg c8] at H
            have c8b0 : decide (x4_2 < (((rd_T30 l0 x3_1).f0).length : Int)) = false:=decide_eq_false c8
            clear c8
            have H':=Aside0.mk H
            clear H
            have p152 : 0 ≤ (x3_1 : Int):=of_decide_eq_true (by first | (with_reducible assumption) | assumption)
            have q152 : x3_1 < (l0.length : Int):=of_decide_eq_true (by first | (with_reducible assumption) | assumption)
            obtain ⟨ad152,A152_0,c152_0,e152,hx152_0,hx152_1,hl152_0,hi152_0⟩:=at_T30 HR0.out x3_1 p152 q152
            obtain rfl : ad151 = ad152:=(by injection e152)
            have HR152_0:=Aside0.mk hi152_0
            have HC152_0:=Aside0.mk hl152_0
            clear hi152_0 hl152_0
            replace p152:=eq_true p152
            replace q152:=eq_true q152
            go_wp2
            go_roundg k2
            case measure => have:=HK1.out; have:=HK2.out; omega
            case rel => exact ⟨(wrap64 (x3_1 + 1)),(by first | rfl | (simp; done) | (simp [*]; done)),H',⟨by have:=HK1.out; have:=HK2.out; omega⟩,by repeat (first | exact Drawn0.refl _ | apply Drawn0.step)⟩
          ·rw [if_neg c7] at H
           exact absurd H (by simp)
         ·rw [if_neg c6] at H
          exact absurd H (by simp)
     ·rw [if_neg c4] at H
      exact absurd H (by simp)
    ·rw [if_neg c3] at H
     have c3b0 : decide (x3_1 < (l0.length : Int)) = false:=decide_eq_false c3
     clear c3
     obtain rfl:=Option.some.inj H
     go_wp2
     go_ret
     exact ⟨by first | rfl | (simp; done) | (simp [*]; done),by repeat (first | exact Drawn0.refl _ | apply Drawn0.step)⟩
end Go.Proofs.Ytpggidmpkhmijaa.P
namespace Go.Proofs.Ytpggidmpkhmijaa.Op
open Go.RowKit Go.ChangeShapes Go.WideShapes Go.ChangeAt Go.Deep Go.Proofs.YtpggidmpkhmijaaW.PrintWords
def Rd {α : Type} (P : Program) (t : TypeId) (d : Kd α) (G : α → Prop) : Prop :=
 ∀ (H : Type) (enc : TypeId × Value → H) (w : World) (fuel : Nat) (cs : List Value) (x : DataW H × List MemPlace),
  DataW.trod enc P w 0 (fun _ => true) true fuel t cs = some x → ∃ a,d.K w a cs ∧ G a
variable {P : Program} {t : TypeId}
theorem Rd.int {k : IntKind} (ht : P.underlying t = some (.int k)) : Rd P t (Kd.int k) (fun a => (Lit.int k a).wf = true):=fun H enc w fuel cs x h => by
 obtain ⟨n,rfl,_,hw⟩:=DataW.trod_int ht h
 exact ⟨n,rfl,hw⟩
theorem Rd.string (ht : P.underlying t = some .string) : Rd P t Kd.string (fun s => s.size ≤ maxLen):=fun H enc w fuel cs x h => by
 obtain ⟨s,rfl,_,hs⟩:=DataW.trod_string ht h
 exact ⟨s,rfl,hs⟩
theorem zAj (a : Addr) (n : Nat) : (a.add n).block = a.block:=by unfold Addr.add; split <;> rfl
theorem Rd.slice {α : Type} {e : TypeId} {d : Kd α} {G : α → Prop} (ht : P.underlying t = some (.slice e)) (hC : P.cellsOf e = d.sz) (he : Rd P e d G) :
  Rd P t (Kd.slice e d) (fun xs => xs.length ≤ maxLen ∧ ∀ a ∈ xs,G a):=fun H enc w fuel cs x h => by
 rcases open_slice ht h with ⟨rfl,_⟩ | ⟨a,len,cap,m,n,D,Pl,rfl,_,hl,hm,hmm,_,hi⟩
 ·exact ⟨[],⟨none,0,rfl,Nat.le_refl _,rfl,by simp,fun hp => absurd hp (by simp)⟩,by simp,fun a ha => by cases ha⟩
 ·have hlen : len ≤ maxLen:=Nat.le_trans hl hm
  have hlm : len ≤ m:=by rw [hmm]; split <;> omega
  have hx : ∀ i : Fin len,∃ y : α,G y ∧ ∃ cs',cs'.length = d.sz ∧ d.K w y cs' ∧ ∀ j u,cs'[j]? = some u → w.cell? (a.add (i.val * d.sz + j)) = some u:=fun i => by
   obtain ⟨cs',hc,ht'⟩:=hi i.val (by have:=i.isLt; omega)
   obtain ⟨y,hK,hG⟩:=he H enc w n cs' _ ht'
   obtain ⟨_,hcl,hat⟩:=World.cells?_some hc
   refine ⟨y,hG,cs',by rw [hcl,hC],hK,fun j u hu => ?_⟩
   have hj : j < P.cellsOf e:=by rw [← hcl]; exact (List.getElem?_eq_some_iff.1 hu).1
   have:=hat j hj
   rw [Go.Deep.add_add,hC] at this
   exact this.trans hu
  refine ⟨List.ofFn fun i => Classical.choose (hx i),⟨some a,cap,by simp,by simpa using hl,?_⟩,by simpa using hlen,fun y hy => ?_⟩
  ·refine ⟨by simp,by simp only [List.length_ofFn]; simp only [maxLen] at hlen; omega,fun _ => ⟨a,rfl,fun j p hj => ?_⟩⟩
   obtain ⟨hjl,hp⟩:=List.getElem?_eq_some_iff.1 hj
   rw [List.length_ofFn] at hjl
   rw [List.getElem_ofFn] at hp
   subst hp
   obtain ⟨_,c,h1,h2,h3⟩:=Classical.choose_spec (hx ⟨j,hjl⟩)
   exact ⟨c,h1,h2,h3⟩
  ·obtain ⟨i,hi'⟩:=List.mem_ofFn.1 hy
   rw [← hi']
   exact (Classical.choose_spec (hx i)).1
theorem pairK {α β : Type} {a : Kd α} {b : Kd β} {w : World} {x : α} {y : β} {cs : List Value} (o : Nat) (h1 : a.K w x ((cs.drop o).take a.sz)) (h2 : b.K w y (cs.drop (o + a.sz))) : (Kd.pair a b).K w (x,y) (cs.drop o) :=
 ⟨_,_,by rw [Nat.add_comm,← List.drop_drop,List.drop_drop,Nat.add_comm,← List.drop_drop]; exact (List.take_append_drop _ _).symm,h1,h2⟩
theorem lastK {α : Type} {a : Kd α} {w : World} {x : α} {cs : List Value} (o : Nat) (hl : cs.length = o + a.sz) (h1 : a.K w x ((cs.drop o).take a.sz)) : a.K w x (cs.drop o):=by
 rwa [List.take_of_length_le (by rw [List.length_drop]; omega)] at h1
theorem Rd.field {α : Type} {H : Type} {enc : TypeId × Value → H} {w : World} {n o : Nat} {cs : List Value} {ft : TypeId} {d : Kd α} {G : α → Prop} (hd : Rd P ft d G) (hC : P.cellsOf ft = d.sz) (y : Option (DataW H × List MemPlace)) (hy : y.isSome = true)
  (h : DataW.trod enc P w 0 (fun _ => true) true n ft ((cs.drop o).take (P.cellsOf ft)) = y) : ∃ a,d.K w a ((cs.drop o).take d.sz) ∧ G a:=by
 rw [hC] at h
 obtain ⟨z,rfl⟩:=Option.isSome_iff_exists.1 hy
 exact hd H enc w n _ _ h
theorem toArray_of {cs : Array Value} {l : List Value} (h : cs.toList = l) : cs = l.toArray:=by rw [← h]
end Go.Proofs.Ytpggidmpkhmijaa.Op
namespace Go.Proofs.Ytpggidmpkhmijaa.P
open Go.RowKit Go.ChangeShapes Go.WideShapes Go.ChangeAt Go.Deep Go.Proofs.YtpggidmpkhmijaaW.PrintWords Go.Proofs.Ytpggidmpkhmijaa.Op
def W64 (a : Int) : Prop:=(Lit.int .i64 a).wf = true
def G24 (x : S24) : Prop:=W64 x.f0 ∧ W64 x.f1 ∧ W64 x.f2 ∧ x.f3.size ≤ maxLen ∧ x.f4.length ≤ maxLen ∧ ∀ a ∈ x.f4,W64 a
def G30 (x : S30) : Prop:=(x.f0.length ≤ maxLen ∧ ∀ a ∈ x.f0,G24 a) ∧ W64 x.f1
theorem cellsOf24 : Try.prog.cellsOf 24 = 5:=by kernel_rfl
theorem cellsOf30 : Try.prog.cellsOf 30 = 2:=by kernel_rfl
theorem cellsOf3 : Try.prog.cellsOf 3 = 1:=by kernel_rfl
theorem cellsOf9 : Try.prog.cellsOf 9 = 1:=by kernel_rfl
theorem cellsOf22 : Try.prog.cellsOf 22 = 1:=by kernel_rfl
theorem cellsOf28 : Try.prog.cellsOf 28 = 1:=by kernel_rfl
theorem rd22 : Rd Try.prog 22 (Kd.slice 3 (Kd.int .i64)) (fun xs => xs.length ≤ maxLen ∧ ∀ a ∈ xs,W64 a):=Rd.slice Try.underlying22 cellsOf3 (Rd.int Try.underlying3)
theorem rd24 : Rd Try.prog 24 k24 G24:=fun H enc w fuel cs x h => by
 obtain ⟨xs,n,_,_,hlen,hxl,hg⟩:=DataW.trod_struct Try.underlying24 h
 rw [cellsOf24] at hlen
 have hs : ∀ j,j < 5 → (xs[j]?).isSome = true:=fun j hj => by
  rw [List.getElem?_eq_getElem (by rw [hxl]; exact hj)]; rfl
 obtain ⟨a0,h0,g0⟩:=Rd.field (Rd.int Try.underlying3) cellsOf3 _ (hs 0 (by decide)) (hg 0 _ rfl)
 obtain ⟨a1,h1,g1⟩:=Rd.field (Rd.int Try.underlying3) cellsOf3 _ (hs 1 (by decide)) (hg 1 _ rfl)
 obtain ⟨a2,h2,g2⟩:=Rd.field (Rd.int Try.underlying3) cellsOf3 _ (hs 2 (by decide)) (hg 2 _ rfl)
 obtain ⟨a3,h3,g3⟩:=Rd.field (Rd.string Try.underlying9) cellsOf9 _ (hs 3 (by decide)) (hg 3 _ rfl)
 obtain ⟨a4,h4,g4⟩:=Rd.field rd22 cellsOf22 _ (hs 4 (by decide)) (hg 4 _ rfl)
 exact ⟨⟨a0,a1,a2,a3,a4⟩,pairK 0 h0 (pairK 1 h1 (pairK 2 h2 (pairK 3 h3 (lastK 4 hlen h4)))),g0,g1,g2,g3,g4.1,g4.2⟩
theorem rd28 : Rd Try.prog 28 (Kd.slice 24 k24) (fun xs => xs.length ≤ maxLen ∧ ∀ a ∈ xs,G24 a):=Rd.slice Try.underlying28 cellsOf24 rd24
theorem rd30 : Rd Try.prog 30 k30 G30:=fun H enc w fuel cs x h => by
 obtain ⟨xs,n,_,_,hlen,hxl,hg⟩:=DataW.trod_struct Try.underlying30 h
 rw [cellsOf30] at hlen
 have hs : ∀ j,j < 2 → (xs[j]?).isSome = true:=fun j hj => by
  rw [List.getElem?_eq_getElem (by rw [hxl]; exact hj)]; rfl
 obtain ⟨a0,h0,g0⟩:=Rd.field rd28 cellsOf28 _ (hs 0 (by decide)) (hg 0 _ rfl)
 obtain ⟨a1,h1,g1⟩:=Rd.field (Rd.int Try.underlying3) cellsOf3 _ (hs 1 (by decide)) (hg 1 _ rfl)
 exact ⟨⟨a0,a1⟩,pairK 0 h0 (lastK 1 hlen h1),g0,g1⟩
open Go.RowKit Go.Proofs.YtpggidmpkhmijaaW.PrintWords Go.Proofs.YtpggidmpkhmijaaW.PrintLast Go.Proofs.YtpggidmpkhmijaaW.PrintMore
theorem wrapS (i : Nat) (h : i < 9223372036854775807) : wrap64 ((i : Int) + 1) = ((i + 1 : Nat) : Int):=by unfold wrap64; omega
theorem rdT24 (l : List S24) (i : Nat) (h : i < l.length) : rd_T24 l (i : Int) = l[i]:=by simp [rd_T24,h]
theorem rdT30 (l : List S30) (i : Nat) (h : i < l.length) : rd_T30 l (i : Int) = l[i]:=by simp [rd_T30,h]
theorem rdN (l : List Int) (i : Nat) (h : i < l.length) : rd l (i : Int) = l[i]:=by simp [rd,h]
def shL (a : Int) (l : List Int) : List Int:=l.map fun x => wrap64 (x + a)
def shN (a : Int) (x : S24) : S24:={ x with f4:=shL a x.f4 }
theorem ev_iff {α : Type} {c : Prop} [Decidable c] {f g : Nat → Option α} {r : α} (hc : c) (h : Ev f r) : Ev (fun k => if c then f k else g k) r:=h.congr (fun k => if_pos hc)
theorem ev_ifn {α : Type} {c : Prop} [Decidable c] {f g : Nat → Option α} {r : α} (hc : ¬ c) (h : Ev g r) : Ev (fun k => if c then f k else g k) r:=h.congr (fun k => if_neg hc)
theorem shift_l0 (at_ : Int) (l : List Int) (hl : l.length < 17592186044416) (a b c : Int) (s : ByteArray) (l4 : List Int) : ∀ (d i : Nat) (acc : List Int),i + d = l.length → acc.length = i →
  Ev (fun k => zBc.l0 k at_ acc l (l.length : Int) (i : Int) a b c s l4) (a,b,c,s,acc ++ shL at_ (l.drop i))
 | 0,i,acc,hd,ha => by
  refine Ev.step (fun k => by simp only [zBc.l0]; rw [if_neg (by omega)]) ?_
  rw [List.drop_of_length_le (by omega)]
  simp only [shL,List.map_nil,List.append_nil]
  exact Ev.now _
 | d + 1,i,acc,hd,ha => by
  refine Ev.step (fun k => by simp only [zBc.l0]; rw [if_pos (by omega),if_pos (by omega),if_pos (by omega),if_pos (by omega),wrapS i (by omega),rdN l i (by omega)]) ?_
  have h:=shift_l0 at_ l hl a b c s l4 d (i + 1) (acc ++ [wrap64 (l[i] + at_)]) (by omega) (by simp [ha])
  rw [List.drop_eq_getElem_cons (by omega : i < l.length)]
  simpa only [shL,List.map_cons,List.append_assoc,List.cons_append,List.nil_append] using h
theorem shift_ev (at_ : Int) (x : S24) (hl : x.f4.length < 17592186044416) : Ev (fun k => zBc.f k x.f0 x.f1 x.f2 x.f3 x.f4 at_) (x.f0,x.f1,x.f2,x.f3,shL at_ x.f4):=by
 unfold zBc.f
 refine ev_iff (by omega) (ev_iff (by omega) ?_)
 simpa using shift_l0 at_ x.f4 hl x.f0 x.f1 x.f2 x.f3 x.f4 x.f4.length 0 [] (by omega) rfl
def OkT (t : S30) : Prop:=t.f0.length ≤ 200 ∧ ∀ x ∈ t.f0,x.f4.length ≤ 200 ∧ x.f3.size ≤ 200
theorem sameInts_l0 (l : List Int) (hl : l.length < 1000000) : ∀ (d i : Nat),i + d = l.length → Ev (fun k => zAB.l0 k l l (i : Int)) true
 | 0,i,hd => Ev.step (fun k => by simp only [zAB.l0]; rw [if_neg (by omega)]) (Ev.now _)
 | d + 1,i,hd => Ev.step (fun k => by simp only [zAB.l0]; rw [if_pos (by omega),if_pos (by omega),if_pos (by omega),if_pos trivial,wrapS i (by omega)]) (sameInts_l0 l hl d (i + 1) (by omega))
theorem sameInts_ev (l : List Int) (hl : l.length < 1000000) : Ev (fun k => zAB.f k l l) true:=by
 unfold zAB.f
 exact ev_iff rfl (by simpa using sameInts_l0 l hl l.length 0 (by omega))
theorem like_l0 (ns : List S24) (rt : Int) (hn : ns.length < 1000000) (hk : ∀ x ∈ ns,x.f4.length < 1000000) : ∀ (d i : Nat),i + d = ns.length → Ev (fun k => zAC.l0 k (i : Int) ns rt ns rt) true
 | 0,i,hd => Ev.step (fun k => by simp only [zAC.l0]; rw [if_neg (by omega)]) (Ev.now _)
 | d + 1,i,hd => by
  have hi : i < ns.length:=by omega
  refine Ev.step (fun k => by simp only [zAC.l0]; rw [if_pos (by omega),if_pos (by omega),if_pos (by omega),if_pos trivial,if_pos trivial,if_pos trivial,if_pos trivial,rdT24 ns i hi,wrapS i (by omega)]) ?_
  refine Ev.bind (sameInts_ev _ (hk _ (List.getElem_mem hi))) ?_
  exact ev_iff rfl (like_l0 ns rt hn hk d (i + 1) (by omega))
theorem like_ev (ns : List S24) (rt : Int) (hn : ns.length < 1000000) (hk : ∀ x ∈ ns,x.f4.length < 1000000) : Ev (fun k => zAC.f k ns rt ns rt) true:=by
 unfold zAC.f
 refine ev_iff rfl ?_
 rw [show (rt != rt) = false from by simp]
 refine Ev.step (fun k => by simp only [zAC.j0]; rw [if_neg (by simp)]) ?_
 simpa using like_l0 ns rt hn hk ns.length 0 (by omega)
def OkTb (t : S30) : Bool:=decide (t.f0.length ≤ 200) && t.f0.all fun x => decide (x.f4.length ≤ 200) && decide (x.f3.size ≤ 200)
theorem okTb (t : S30) : OkTb t = true ↔ OkT t:=by simp [OkTb,OkT]
def smallS (l : List S30) : Bool:=decide (l.length ≤ 30) && l.all OkTb
theorem small_l1 (l : List S30) (i : Nat) (hi : i < l.length) (hi30 : i < 1000) (hn : l[i].f0.length ≤ 200) (q : Bool) (h : Ev (fun k => zAD.l0 k l ((i + 1 : Nat) : Int)) q) : ∀ (d j : Nat),j + d = l[i].f0.length →
  Ev (fun k => zAD.l1 k l (i : Int) (j : Int)) (((l[i].f0.drop j).all fun x => decide (x.f4.length ≤ 200) && decide (x.f3.size ≤ 200)) && q)
 | 0,j,hd => by
  rw [List.drop_of_length_le (by omega)]
  simp only [List.all_nil,Bool.true_and]
  exact Ev.step (fun k => by simp only [zAD.l1]; rw [if_pos (by omega),if_pos (by omega),rdT30 l i hi,if_neg (by omega),wrapS i (by omega)]) h
 | d + 1,j,hd => by
  have hj : j < l[i].f0.length:=by omega
  rw [List.drop_eq_getElem_cons hj,List.all_cons]
  by_cases h1 : l[i].f0[j].f4.length ≤ 200
  ·by_cases h2 : l[i].f0[j].f3.size ≤ 200
   ·simp only [h1,h2,decide_true,Bool.true_and]
    exact Ev.step (fun k => by simp only [zAD.l1]; rw [if_pos (by omega),if_pos (by omega),rdT30 l i hi,if_pos (by omega),if_pos (by omega),rdT24 _ j hj,if_neg (by omega),if_neg (by omega),wrapS j (by omega)]) (small_l1 l i hi hi30 hn q h d (j + 1) (by omega))
   ·simp only [h1,h2,decide_true,decide_false,Bool.and_false,Bool.false_and]
    exact Ev.step (fun k => by simp only [zAD.l1]; rw [if_pos (by omega),if_pos (by omega),rdT30 l i hi,if_pos (by omega),if_pos (by omega),rdT24 _ j hj,if_neg (by omega),if_pos (by omega)]) (Ev.now _)
  ·simp only [h1,decide_false,Bool.false_and]
   exact Ev.step (fun k => by simp only [zAD.l1]; rw [if_pos (by omega),if_pos (by omega),rdT30 l i hi,if_pos (by omega),if_pos (by omega),rdT24 _ j hj,if_pos (by omega)]) (Ev.now _)
theorem small_l0 (l : List S30) (hl : l.length ≤ 30) : ∀ (d i : Nat),i + d = l.length → Ev (fun k => zAD.l0 k l (i : Int)) ((l.drop i).all OkTb)
 | 0,i,hd => by
  rw [List.drop_of_length_le (by omega),List.all_nil]
  exact Ev.step (fun k => by simp only [zAD.l0]; rw [if_neg (by omega)]) (Ev.now _)
 | d + 1,i,hd => by
  have hi : i < l.length:=by omega
  rw [List.drop_eq_getElem_cons hi,List.all_cons]
  by_cases hn : l[i].f0.length ≤ 200
  ·refine Ev.step (fun k => by simp only [zAD.l0]; rw [if_pos (by omega),if_pos (by omega),rdT30 l i hi,if_neg (by omega)]) ?_
   have:=small_l1 l i hi (by omega) hn _ (small_l0 l hl d (i + 1) (by omega)) l[i].f0.length 0 (by omega)
   rw [List.drop_zero] at this
   simp only [OkTb,hn,decide_true,Bool.true_and]
   exact this
  ·simp only [OkTb,hn,decide_false,Bool.false_and]
   exact Ev.step (fun k => by simp only [zAD.l0]; rw [if_pos (by omega),if_pos (by omega),rdT30 l i hi,if_pos (by omega)]) (Ev.now _)
theorem small_ev (l : List S30) : Ev (fun k => zAD.f k l) (smallS l):=by
 unfold zAD.f smallS
 by_cases h : l.length ≤ 30
 ·simp only [h,decide_true,Bool.true_and]
  exact ev_ifn (by omega) (by simpa using small_l0 l h l.length 0 (by omega))
 ·simp only [h,decide_false,Bool.false_and]
  exact ev_iff (by omega) (Ev.now _)
theorem smallS_ok {l : List S30} (h : smallS l = true) : l.length ≤ 30 ∧ ∀ t ∈ l,OkT t:=by
 simp only [smallS,Bool.and_eq_true,decide_eq_true_eq,List.all_eq_true] at h
 exact ⟨h.1,fun t ht => (okTb t).1 (h.2 t ht)⟩
attribute [local go_sem] zBa zAY max_two min_two zAR zAT zAZ zAX
def zAJ.f (l0_0 : List (S24)) (a0_1 : Int) : Option (Bool):=if (l0_0.length : Int) = 0 then (some false) else (if (l0_0.length : Int) > 4000 then (some false) else (if a0_1 = (wrap64 ((l0_0.length : Int) - 1)) then ((zBf.f l0_0).bind fun bt134 => (if bt134.2 = true then (if 0 ≤ a0_1 then (if a0_1 < (bt134.1.length : Int) then (some ((rd bt134.1 a0_1) == (bt134.1.length : Int))) else (none)) else (none)) else (some false))) else (some false)))
set_option maxHeartbeats 8000000 in
set_option maxRecDepth 100000 in
theorem zAJ.calls (A0_0 : Option Addr) (c0_0 : Nat) (l0_0 : List (S24)) (a0_1 : Int) (r : Bool) (w : World) (hr0_0 : Kd.C k24 w A0_0 l0_0.length l0_0) (hc0_0 : l0_0.length ≤ c0_0) (h : zAJ.f l0_0 a0_1 = some r) :
  Calls Try.prog 15 #[.agg #[.slice A0_0 l0_0.length c0_0,.int .i64 a0_1]] w fun e w' => e = .returned (.bool r) ∧ Below w.heap.size w w':=by
 have hu30:=Try.underlying30
 have HR0_0:=Aside0.mk hr0_0
 have HC0_0:=Aside0.mk hc0_0
 clear hr0_0 hc0_0
 have HB:=Aside0.mk (Below.refl w.heap.size w)
 have H : (if (l0_0.length : Int) = 0 then (some false) else (if (l0_0.length : Int) > 4000 then (some false) else (if a0_1 = (wrap64 ((l0_0.length : Int) - 1)) then ((zBf.f l0_0).bind fun bt134 => (if bt134.2 = true then (if 0 ≤ a0_1 then (if a0_1 < (bt134.1.length : Int) then (some ((rd bt134.1 a0_1) == (bt134.1.length : Int))) else (none)) else (none)) else (some false))) else (some false)))) = some r:=h
 clear h
 by_cases c2 : (l0_0.length : Int) = 0
 ·rw [if_pos c2] at H
  have c2b0 : ((l0_0.length : Int) == 0) = true:=beq_iff_eq.mpr c2
  have c2b1 : ((l0_0.length : Int) != 0) = false:=bne_eq_false_iff_eq.mpr c2
  clear c2
  obtain rfl:=Option.some.inj H
  go_enter Try.func15,Try.ntmps15
  go_wp2_with (first | ((with_reducible refine zAM (N:=1) rfl ?_); (try (refine zBk (by rfl) ?_; dsimp only)); refine zAL ?hg (N:=1) ?hd (cs:=#[.slice A0_0 l0_0.length c0_0,.int .i64 a0_1]) (t:=30) ?hr ?_; (case hd => rfl); (case hg => rfl); (case hr => first | (go_simp; done) | (go_simp; rfl)); intro gb133 hg w3 hbox hb; have n0_:=Aside0.mk (zAm (by repeat (first | (with_reducible first | exact HB.out | apply zAg | apply zAc | apply zAi) | exact HB.out)) hb); have n1_:=Aside0.mk (hbox); have n2_:=Aside0.mk ((by rw [hg]; exact (zAp (by repeat (first | (with_reducible first | exact HB.out | apply zAg | apply zAc | apply zAi) | exact HB.out))) : w.heap.size ≤ gb133)); have n3_:=Aside0.mk ((by rw [hg]; exact (zAp (by repeat (first | (with_reducible first | exact HB.out | apply zAg | apply zAc | apply zAi) | exact HB.out))) : w.heap.size ≤ gb133)); clear HB; have HB:=n0_; have BK133:=n1_; have GW133:=n2_; have GE133:=n3_; clear n0_ n1_ n2_ n3_; clear hb hbox hg; have hcz4_0 : w3.cell? ⟨gb133,0,none⟩ = some (.slice A0_0 l0_0.length c0_0):=(zAf BK133.out 0).trans rfl; have hcz4_1 : w3.cell? ⟨gb133,1,none⟩ = some (.int .i64 a0_1):=(zAf BK133.out 1).trans rfl; have hfz4_0:=zAe BK133.out 0; have hfz4_1:=zAe BK133.out 1))
  go_ret
  exact ⟨by first | rfl | (simp [zAo,zAn] <;> rfl) | (simp [*,zAo,zAn] <;> rfl),by repeat (first | (with_reducible first | exact HB.out | apply zAg | apply zAc | apply zAi | refine zAh ?_ GE133.out) | exact HB.out)⟩
 ·rw [if_neg c2] at H
  have c2b0 : ((l0_0.length : Int) == 0) = false:=beq_eq_false_iff_ne.mpr c2
  have c2b1 : ((l0_0.length : Int) != 0) = true:=bne_iff_ne.mpr c2
  have c2b2 : ¬ (l0_0 = []):=fun h_ => c2 (by rw [h_]; rfl)
  by_cases c5 : (l0_0.length : Int) > 4000
  ·rw [if_pos c5] at H
   have c5b0 : decide (4000 < (l0_0.length : Int)) = true:=decide_eq_true c5
   have c5b1 : decide (4000 < l0_0.length) = true:=decide_eq_true (by omega)
   clear c5
   obtain rfl:=Option.some.inj H
   go_enter Try.func15,Try.ntmps15
   go_wp2_with (first | ((with_reducible refine zAM (N:=1) rfl ?_); (try (refine zBk (by rfl) ?_; dsimp only)); refine zAL ?hg (N:=1) ?hd (cs:=#[.slice A0_0 l0_0.length c0_0,.int .i64 a0_1]) (t:=30) ?hr ?_; (case hd => rfl); (case hg => rfl); (case hr => first | (go_simp; done) | (go_simp; rfl)); intro gb133 hg w6 hbox hb; have n0_:=Aside0.mk (zAm (by repeat (first | (with_reducible first | exact HB.out | apply zAg | apply zAc | apply zAi) | exact HB.out)) hb); have n1_:=Aside0.mk (hbox); have n2_:=Aside0.mk ((by rw [hg]; exact (zAp (by repeat (first | (with_reducible first | exact HB.out | apply zAg | apply zAc | apply zAi) | exact HB.out))) : w.heap.size ≤ gb133)); have n3_:=Aside0.mk ((by rw [hg]; exact (zAp (by repeat (first | (with_reducible first | exact HB.out | apply zAg | apply zAc | apply zAi) | exact HB.out))) : w.heap.size ≤ gb133)); clear HB; have HB:=n0_; have BK133:=n1_; have GW133:=n2_; have GE133:=n3_; clear n0_ n1_ n2_ n3_; clear hb hbox hg; have hcz7_0 : w6.cell? ⟨gb133,0,none⟩ = some (.slice A0_0 l0_0.length c0_0):=(zAf BK133.out 0).trans rfl; have hcz7_1 : w6.cell? ⟨gb133,1,none⟩ = some (.int .i64 a0_1):=(zAf BK133.out 1).trans rfl; have hfz7_0:=zAe BK133.out 0; have hfz7_1:=zAe BK133.out 1))
   go_ret
   exact ⟨by first | rfl | (simp [zAo,zAn] <;> rfl) | (simp [*,zAo,zAn] <;> rfl),by repeat (first | (with_reducible first | exact HB.out | apply zAg | apply zAc | apply zAi | refine zAh ?_ GE133.out) | exact HB.out)⟩
  ·rw [if_neg c5] at H
   have c5b0 : decide (4000 < (l0_0.length : Int)) = false:=decide_eq_false c5
   have c5b1 : decide (4000 < l0_0.length) = false:=decide_eq_false (by omega)
   clear c5
   by_cases c8 : a0_1 = (wrap64 ((l0_0.length : Int) - 1))
   ·rw [if_pos c8] at H
    have c8b0 : (a0_1 == (wrap64 ((l0_0.length : Int) - 1))) = true:=beq_iff_eq.mpr c8
    have c8b1 : (a0_1 != (wrap64 ((l0_0.length : Int) - 1))) = false:=bne_eq_false_iff_eq.mpr c8
    clear c8
    replace H:=Option.bind_eq_some_iff.mp H
    obtain ⟨⟨t134,t135⟩,A90,H⟩:=H
    replace H : (if t135 = true then (if 0 ≤ a0_1 then (if a0_1 < (t134.length : Int) then (some ((rd t134 a0_1) == (t134.length : Int))) else (none)) else (none)) else (some false)) = some r:=H
    have A9:=Aside0.mk A90
    clear A90
    by_cases c10 : t135 = true
    ·subst c10
     have H1 : (if 0 ≤ a0_1 then (if a0_1 < (t134.length : Int) then (some ((rd t134 a0_1) == (t134.length : Int))) else (none)) else (none)) = some r:=by rw [if_pos rfl] at H; exact H
     clear H
     have H:=H1
     clear H1
     by_cases c11 : 0 ≤ a0_1
     ·rw [if_pos c11] at H
      have c11b0 : decide (0 ≤ a0_1) = true:=decide_eq_true c11
      clear c11
      by_cases c12 : a0_1 < (t134.length : Int)
      ·rw [if_pos c12] at H
       have c12b0 : decide (a0_1 < (t134.length : Int)) = true:=decide_eq_true c12
       clear c12
       obtain rfl:=Option.some.inj H
       go_enter Try.func15,Try.ntmps15
       go_wp2_with (first | ((with_reducible refine zAM (N:=1) rfl ?_); (try (refine zBk (by rfl) ?_; dsimp only)); refine zAL ?hg (N:=1) ?hd (cs:=#[.slice A0_0 l0_0.length c0_0,.int .i64 a0_1]) (t:=30) ?hr ?_; (case hd => rfl); (case hg => rfl); (case hr => first | (go_simp; done) | (go_simp; rfl)); intro gb133 hg w13 hbox hb; have n0_:=Aside0.mk (zAm (by repeat (first | (with_reducible first | exact HB.out | apply zAg | apply zAc | apply zAi) | exact HB.out)) hb); have n1_:=Aside0.mk (hbox); have n2_:=Aside0.mk ((by rw [hg]; exact (zAp (by repeat (first | (with_reducible first | exact HB.out | apply zAg | apply zAc | apply zAi) | exact HB.out))) : w.heap.size ≤ gb133)); have n3_:=Aside0.mk ((by rw [hg]; exact (zAp (by repeat (first | (with_reducible first | exact HB.out | apply zAg | apply zAc | apply zAi) | exact HB.out))) : w.heap.size ≤ gb133)); clear HB; have HB:=n0_; have BK133:=n1_; have GW133:=n2_; have GE133:=n3_; clear n0_ n1_ n2_ n3_; clear hb hbox hg; have hcz14_0 : w13.cell? ⟨gb133,0,none⟩ = some (.slice A0_0 l0_0.length c0_0):=(zAf BK133.out 0).trans rfl; have hcz14_1 : w13.cell? ⟨gb133,1,none⟩ = some (.int .i64 a0_1):=(zAf BK133.out 1).trans rfl; have hfz14_0:=zAe BK133.out 0; have hfz14_1:=zAe BK133.out 1) | ((with_reducible refine zAA (f:=27) rfl ?_); refine goesL_ (some 27) rfl rfl Try.func27 (by kernel_rfl) rfl #[.slice A0_0 l0_0.length c0_0] rfl (by (try simp only [List.map_toArray,List.map_cons,List.map_nil]); first | done | rfl | (simp only [List.length_drop,List.length_take]; rfl)) ?_; (with_reducible refine (zBf.calls _ _ l0_0 t134 true _ ?side1 ?side2 A9.out).mono ?_); (case side1 => repeat (first | exact (Kd.C_below HR0_0.out HB.out) | (with_reducible refine Kd.C_alloc ?_ _) | (with_reducible refine Kd.C_drewN ?_ _) | (with_reducible refine Kd.C_drew ?_))); (case side2 => exact HC0_0.out); rintro e w15 ⟨v136,rfl,ho0,hb⟩; refine ⟨_,rfl,?_⟩; have n0_:=Aside0.mk (Kd.R_lower ho0 (zAp (by repeat (first | (with_reducible first | exact HB.out | apply zAg | apply zAc | apply zAi | refine zAh ?_ GE133.out) | exact HB.out)))); have n1_:=Aside0.mk (zAs (g:=gb133) (o:=.cells #[.slice A0_0 l0_0.length c0_0,.int .i64 a0_1] 30 (0,0)) (by (with_reducible repeat (first | apply zAb | apply zAd | apply zAa)); exact BK133.out) hb); have n2_:=Aside0.mk (zAm (by repeat (first | (with_reducible first | exact HB.out | apply zAg | apply zAc | apply zAi | refine zAh ?_ GE133.out) | exact HB.out)) hb); clear BK133; clear HB; have HO137:=n0_; have BK133:=n1_; have HB:=n2_; clear n0_ n1_ n2_; (try clear hb); (try clear hb2); (try clear hk); (try clear hi); (try clear ho0); have hcz16_0 : w15.cell? ⟨gb133,0,none⟩ = some (.slice A0_0 l0_0.length c0_0):=(zAf BK133.out 0).trans rfl; have hcz16_1 : w15.cell? ⟨gb133,1,none⟩ = some (.int .i64 a0_1):=(zAf BK133.out 1).trans rfl; have hfz16_0:=zAe BK133.out 0; have hfz16_1:=zAe BK133.out 1; obtain ⟨Ao17,co17,eo17⟩:=Kd.R_slice HO137.out; subst eo17; have p138 : 0 ≤ (a0_1 : Int):=of_decide_eq_true (by first | (with_reducible assumption) | assumption); have q138 : a0_1 < (t134.length : Int):=of_decide_eq_true (by first | (with_reducible assumption) | assumption); obtain ⟨ad138,e138,hx138_0⟩:=Kd.at_int (Kd.zAV HO137.out).2.2 a0_1 p138 q138; cases e138; replace p138:=eq_true p138; replace q138:=eq_true q138))
       go_ret
       exact ⟨by first | rfl | (simp [zAo,zAn] <;> rfl) | (simp [*,zAo,zAn] <;> rfl),by repeat (first | (with_reducible first | exact HB.out | apply zAg | apply zAc | apply zAi | refine zAh ?_ GE133.out) | exact HB.out)⟩
      ·rw [if_neg c12] at H
       exact absurd H (by simp)
     ·rw [if_neg c11] at H
      exact absurd H (by simp)
    ·replace c10:=Bool.eq_false_iff.mpr c10
     subst c10
     have H1 : (some false) = some r:=by rw [if_neg (show ¬ (false = true) by decide)] at H; exact H
     clear H
     have H:=H1
     clear H1
     obtain rfl:=Option.some.inj H
     go_enter Try.func15,Try.ntmps15
     go_wp2_with (first | ((with_reducible refine zAM (N:=1) rfl ?_); (try (refine zBk (by rfl) ?_; dsimp only)); refine zAL ?hg (N:=1) ?hd (cs:=#[.slice A0_0 l0_0.length c0_0,.int .i64 a0_1]) (t:=30) ?hr ?_; (case hd => rfl); (case hg => rfl); (case hr => first | (go_simp; done) | (go_simp; rfl)); intro gb133 hg w18 hbox hb; have n0_:=Aside0.mk (zAm (by repeat (first | (with_reducible first | exact HB.out | apply zAg | apply zAc | apply zAi) | exact HB.out)) hb); have n1_:=Aside0.mk (hbox); have n2_:=Aside0.mk ((by rw [hg]; exact (zAp (by repeat (first | (with_reducible first | exact HB.out | apply zAg | apply zAc | apply zAi) | exact HB.out))) : w.heap.size ≤ gb133)); have n3_:=Aside0.mk ((by rw [hg]; exact (zAp (by repeat (first | (with_reducible first | exact HB.out | apply zAg | apply zAc | apply zAi) | exact HB.out))) : w.heap.size ≤ gb133)); clear HB; have HB:=n0_; have BK133:=n1_; have GW133:=n2_; have GE133:=n3_; clear n0_ n1_ n2_ n3_; clear hb hbox hg; have hcz19_0 : w18.cell? ⟨gb133,0,none⟩ = some (.slice A0_0 l0_0.length c0_0):=(zAf BK133.out 0).trans rfl; have hcz19_1 : w18.cell? ⟨gb133,1,none⟩ = some (.int .i64 a0_1):=(zAf BK133.out 1).trans rfl; have hfz19_0:=zAe BK133.out 0; have hfz19_1:=zAe BK133.out 1) | ((with_reducible refine zAA (f:=27) rfl ?_); refine goesL_ (some 27) rfl rfl Try.func27 (by kernel_rfl) rfl #[.slice A0_0 l0_0.length c0_0] rfl (by (try simp only [List.map_toArray,List.map_cons,List.map_nil]); first | done | rfl | (simp only [List.length_drop,List.length_take]; rfl)) ?_; (with_reducible refine (zBf.calls _ _ l0_0 t134 false _ ?side1 ?side2 A9.out).mono ?_); (case side1 => repeat (first | exact (Kd.C_below HR0_0.out HB.out) | (with_reducible refine Kd.C_alloc ?_ _) | (with_reducible refine Kd.C_drewN ?_ _) | (with_reducible refine Kd.C_drew ?_))); (case side2 => exact HC0_0.out); rintro e w20 ⟨v136,rfl,ho0,hb⟩; refine ⟨_,rfl,?_⟩; have n0_:=Aside0.mk (Kd.R_lower ho0 (zAp (by repeat (first | (with_reducible first | exact HB.out | apply zAg | apply zAc | apply zAi | refine zAh ?_ GE133.out) | exact HB.out)))); have n1_:=Aside0.mk (zAs (g:=gb133) (o:=.cells #[.slice A0_0 l0_0.length c0_0,.int .i64 a0_1] 30 (0,0)) (by (with_reducible repeat (first | apply zAb | apply zAd | apply zAa)); exact BK133.out) hb); have n2_:=Aside0.mk (zAm (by repeat (first | (with_reducible first | exact HB.out | apply zAg | apply zAc | apply zAi | refine zAh ?_ GE133.out) | exact HB.out)) hb); clear BK133; clear HB; have HO137:=n0_; have BK133:=n1_; have HB:=n2_; clear n0_ n1_ n2_; (try clear hb); (try clear hb2); (try clear hk); (try clear hi); (try clear ho0)))
     go_ret
     exact ⟨by first | rfl | (simp [zAo,zAn] <;> rfl) | (simp [*,zAo,zAn] <;> rfl),by repeat (first | (with_reducible first | exact HB.out | apply zAg | apply zAc | apply zAi | refine zAh ?_ GE133.out) | exact HB.out)⟩
   ·rw [if_neg c8] at H
    have c8b0 : (a0_1 == (wrap64 ((l0_0.length : Int) - 1))) = false:=beq_eq_false_iff_ne.mpr c8
    have c8b1 : (a0_1 != (wrap64 ((l0_0.length : Int) - 1))) = true:=bne_iff_ne.mpr c8
    obtain rfl:=Option.some.inj H
    go_enter Try.func15,Try.ntmps15
    go_wp2_with (first | ((with_reducible refine zAM (N:=1) rfl ?_); (try (refine zBk (by rfl) ?_; dsimp only)); refine zAL ?hg (N:=1) ?hd (cs:=#[.slice A0_0 l0_0.length c0_0,.int .i64 a0_1]) (t:=30) ?hr ?_; (case hd => rfl); (case hg => rfl); (case hr => first | (go_simp; done) | (go_simp; rfl)); intro gb133 hg w21 hbox hb; have n0_:=Aside0.mk (zAm (by repeat (first | (with_reducible first | exact HB.out | apply zAg | apply zAc | apply zAi) | exact HB.out)) hb); have n1_:=Aside0.mk (hbox); have n2_:=Aside0.mk ((by rw [hg]; exact (zAp (by repeat (first | (with_reducible first | exact HB.out | apply zAg | apply zAc | apply zAi) | exact HB.out))) : w.heap.size ≤ gb133)); have n3_:=Aside0.mk ((by rw [hg]; exact (zAp (by repeat (first | (with_reducible first | exact HB.out | apply zAg | apply zAc | apply zAi) | exact HB.out))) : w.heap.size ≤ gb133)); clear HB; have HB:=n0_; have BK133:=n1_; have GW133:=n2_; have GE133:=n3_; clear n0_ n1_ n2_ n3_; clear hb hbox hg; have hcz22_0 : w21.cell? ⟨gb133,0,none⟩ = some (.slice A0_0 l0_0.length c0_0):=(zAf BK133.out 0).trans rfl; have hcz22_1 : w21.cell? ⟨gb133,1,none⟩ = some (.int .i64 a0_1):=(zAf BK133.out 1).trans rfl; have hfz22_0:=zAe BK133.out 0; have hfz22_1:=zAe BK133.out 1))
    go_ret
    exact ⟨by first | rfl | (simp [zAo,zAn] <;> rfl) | (simp [*,zAo,zAn] <;> rfl),by repeat (first | (with_reducible first | exact HB.out | apply zAg | apply zAc | apply zAi | refine zAh ?_ GE133.out) | exact HB.out)⟩
end Go.Proofs.Ytpggidmpkhmijaa.P
