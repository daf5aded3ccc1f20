import Derived.Test.YtpggidmpkhmijaaRose
import Derived.Test.YtpggidmpkhmijaaPf59
set_option linter.unusedVariables false
set_option linter.unusedSimpArgs false
namespace Go.Proofs.Ytpggidmpkhmijaa.P
open Go.RowKit Go.Proofs.YtpggidmpkhmijaaW.PrintWords Go.Proofs.YtpggidmpkhmijaaW.PrintLast Go.Proofs.YtpggidmpkhmijaaW.PrintMore
attribute [local go_sem] zBa zAY max_two min_two zAR zAT zAZ zAX
mutual
def zAk.l0 : Nat → List Int → Int → Option (Bool)
 | 0,_,_ => none
 | k + 1,x1,x5 => if x5 < (x1.length : Int) then (if 0 ≤ x5 then ((zBe.f (rd x1 x5)).bind fun t316 => (if t316 = true then (zAk.l0 k x1 (wrap64 (x5 + 1))) else (some false))) else (none)) else (some true)
def zAk.j1 : Nat → List Int → Int → Bool → Option (Bool)
 | 0,_,_,_ => none
 | k + 1,x1,x6,x29 => if x29 = true then (if (x1.length : Int) = 1 then ((zAH.f k x1).bind fun t317 => (some t317)) else (some false)) else (if x6 = 8 then (zAk.j2 k x1 x6 (x6 == 8)) else (zAk.j2 k x1 x6 (x6 == 27)))
def zAk.j2 : Nat → List Int → Int → Bool → Option (Bool)
 | 0,_,_,_ => none
 | k + 1,x1,x6,x42 => if x42 = true then (if (x1.length : Int) = 2 then ((zAH.f k x1).bind fun t318 => (some t318)) else (some false)) else (if x6 = 9 then (if (x1.length : Int) = 1 then (if 0 < (x1.length : Int) then (some ((rd x1 0) == 18)) else (none)) else (some false)) else (if x6 = 10 then (if (x1.length : Int) = 2 then (if 0 < (x1.length : Int) then (if (rd x1 0) = 18 then (if 1 < (x1.length : Int) then ((zAG.f (rd x1 1)).bind fun t322 => (some t322)) else (none)) else (some false)) else (none)) else (some false)) else (if x6 = 11 then (if (x1.length : Int) = 3 then (if 0 < (x1.length : Int) then ((zAG.f (rd x1 0)).bind fun t324 => (if t324 = true then (if 1 < (x1.length : Int) then (if (rd x1 1) = 6 then (if 2 < (x1.length : Int) then (some ((rd x1 2) == 6)) else (none)) else (some false)) else (none)) else (some false))) else (none)) else (some false)) else (if x6 = 12 then (if (x1.length : Int) = 2 then (if 0 < (x1.length : Int) then ((zAG.f (rd x1 0)).bind fun t328 => (if t328 = true then (if 1 < (x1.length : Int) then (some ((rd x1 1) == 6)) else (none)) else (some false))) else (none)) else (some false)) else (if x6 = 13 then (if (x1.length : Int) ≥ 1 then (if 0 < (x1.length : Int) then (if (rd x1 0) = 19 then (if 1 ≤ (x1.length : Int) then ((zAH.f k (x1.drop 1)).bind fun t332 => (some t332)) else (none)) else (some false)) else (none)) else (some false)) else (if x6 = 14 then (if (x1.length : Int) ≤ 1 then ((zAH.f k x1).bind fun t333 => (some t333)) else (some false)) else (if x6 = 16 then (if (x1.length : Int) = 2 then (if 0 < (x1.length : Int) then (if (rd x1 0) = 6 then (if 1 < (x1.length : Int) then (some ((rd x1 1) == 6)) else (none)) else (some false)) else (none)) else (some false)) else (some ((x1.length : Int) == 0)))))))))
end
def zAk.f (k : Nat) (a0 : Int) (l1 : List Int) : Option (Bool):=if a0 = 1 then ((zAz.f k l1 2 3 0).bind fun t313 => (some t313)) else (if a0 = 3 then ((zAz.f k l1 4 5 6).bind fun t314 => (some t314)) else (if a0 = 6 then (zAk.l0 k l1 0) else (if a0 = 7 then (zAk.j1 k l1 a0 (a0 == 7)) else (if a0 = 15 then (zAk.j1 k l1 a0 (a0 == 15)) else (if a0 = 17 then (zAk.j1 k l1 a0 (a0 == 17)) else (if a0 = 23 then (zAk.j1 k l1 a0 (a0 == 23)) else (zAk.j1 k l1 a0 (a0 == 26))))))))
set_option maxHeartbeats 8000000 in
set_option maxRecDepth 100000 in
theorem zAk.calls (k : Nat) (a0 : Int) (A1 : Option Addr) (c1 : Nat) (l1 : List Int) (r : Bool) (w : World) (hr1 : Kd.C (Kd.int .i64) w A1 l1.length l1) (hc1 : l1.length ≤ c1) (h : zAk.f k a0 l1 = some r) :
  Calls Try.prog 49 #[.int .i64 a0,.slice A1 l1.length c1] w fun e w' => e = .returned (.bool r) ∧ Drawn0 w w':=by
 have HR1:=Aside0.mk hr1
 have HC1:=Aside0.mk hc1
 clear hr1 hc1
 have H : (if a0 = 1 then ((zAz.f k l1 2 3 0).bind fun t313 => (some t313)) else (if a0 = 3 then ((zAz.f k l1 4 5 6).bind fun t314 => (some t314)) else (if a0 = 6 then (zAk.l0 k l1 0) else (if a0 = 7 then (zAk.j1 k l1 a0 (a0 == 7)) else (if a0 = 15 then (zAk.j1 k l1 a0 (a0 == 15)) else (if a0 = 17 then (zAk.j1 k l1 a0 (a0 == 17)) else (if a0 = 23 then (zAk.j1 k l1 a0 (a0 == 23)) else (zAk.j1 k l1 a0 (a0 == 26))))))))) = some r:=h
 clear h
 by_cases c3 : a0 = 1
 ·rw [if_pos c3] at H
  have c3b0 : (a0 == 1) = true:=beq_iff_eq.mpr c3
  have c3b1 : (a0 != 1) = false:=bne_eq_false_iff_eq.mpr c3
  clear c3
  replace H:=Option.bind_eq_some_iff.mp H
  obtain ⟨t313,A40,H⟩:=H
  replace H : (some t313) = some r:=H
  have A4:=Aside0.mk A40
  clear A40
  obtain rfl:=Option.some.inj H
  go_enter Try.func49,Try.ntmps49
  go_wp2_with (first | ((with_reducible refine zAA (f:=57) rfl ?_); refine goesL_ (some 10) rfl rfl Try.func57 (by kernel_rfl) rfl #[.slice A1 l1.length c1,.int .i64 2,.int .i64 3,.int .i64 0] rfl (by (try simp only [List.map_toArray,List.map_cons,List.map_nil]); first | done | rfl | (simp only [List.length_drop,List.length_take]; rfl)) ?_; (with_reducible refine (zAz.calls k _ _ l1 2 3 0 t313 _ ?side1 ?side2 A4.out).mono ?_); (case side1 => repeat (first | exact HR1.out | (with_reducible refine Kd.C_alloc ?_ _) | (with_reducible refine Kd.C_drewN ?_ _) | (with_reducible refine Kd.C_drew ?_))); (case side2 => exact HC1.out); rintro e w' ⟨rfl,⟨nd,rfl⟩⟩; refine ⟨_,rfl,?_⟩))
  go_ret
  exact ⟨by first | rfl | (simp; done) | (simp [*]; done),by repeat (first | exact Drawn0.refl _ | apply Drawn0.step)⟩
 ·rw [if_neg c3] at H
  have c3b0 : (a0 == 1) = false:=beq_eq_false_iff_ne.mpr c3
  have c3b1 : (a0 != 1) = true:=bne_iff_ne.mpr c3
  by_cases c5 : a0 = 3
  ·rw [if_pos c5] at H
   have c5b0 : (a0 == 3) = true:=beq_iff_eq.mpr c5
   have c5b1 : (a0 != 3) = false:=bne_eq_false_iff_eq.mpr c5
   clear c5
   replace H:=Option.bind_eq_some_iff.mp H
   obtain ⟨t314,A60,H⟩:=H
   replace H : (some t314) = some r:=H
   have A6:=Aside0.mk A60
   clear A60
   obtain rfl:=Option.some.inj H
   go_enter Try.func49,Try.ntmps49
   go_wp2_with (first | ((with_reducible refine zAA (f:=57) rfl ?_); refine goesL_ (some 14) rfl rfl Try.func57 (by kernel_rfl) rfl #[.slice A1 l1.length c1,.int .i64 4,.int .i64 5,.int .i64 6] rfl (by (try simp only [List.map_toArray,List.map_cons,List.map_nil]); first | done | rfl | (simp only [List.length_drop,List.length_take]; rfl)) ?_; (with_reducible refine (zAz.calls k _ _ l1 4 5 6 t314 _ ?side1 ?side2 A6.out).mono ?_); (case side1 => repeat (first | exact HR1.out | (with_reducible refine Kd.C_alloc ?_ _) | (with_reducible refine Kd.C_drewN ?_ _) | (with_reducible refine Kd.C_drew ?_))); (case side2 => exact HC1.out); rintro e w' ⟨rfl,⟨nd,rfl⟩⟩; refine ⟨_,rfl,?_⟩))
   go_ret
   exact ⟨by first | rfl | (simp; done) | (simp [*]; done),by repeat (first | exact Drawn0.refl _ | apply Drawn0.step)⟩
  ·rw [if_neg c5] at H
   have c5b0 : (a0 == 3) = false:=beq_eq_false_iff_ne.mpr c5
   have c5b1 : (a0 != 3) = true:=bne_iff_ne.mpr c5
   by_cases c7 : a0 = 6
   ·rw [if_pos c7] at H
    have c7b0 : (a0 == 6) = true:=beq_iff_eq.mpr c7
    have c7b1 : (a0 != 6) = false:=bne_eq_false_iff_eq.mpr c7
    clear c7
    have H':=Aside0.mk H
    clear H
    go_enter Try.func49,Try.ntmps49
    go_wp2
    go_loopg [5] k (fun kq v5 w' => ∃ (x5_1 : Int),v5 = .int .i64 x5_1 ∧ Aside0 (zAk.l0 kq l1 x5_1 = some r) ∧ Aside0 (kq ≤ k) ∧ Drawn0 w w')
    case atStart => exact ⟨(0),(by first | rfl | (simp; done) | (simp [*]; done)),H',⟨Nat.le_refl _⟩,by repeat (first | exact Drawn0.refl _ | apply Drawn0.step)⟩
    case round =>
     clear H'
     try clear c1
     try clear p2
     try clear c3
     try clear c3b0
     try clear c3b1
     try clear c4
     try clear c5
     try clear c5b0
     try clear c5b1
     try clear c7
     try clear c7b0
     try clear c7b1
     obtain ⟨x5_1,rfl,HA,HK1,⟨m1,rfl⟩⟩:=hrel
     cases gk with
     | zero => exact absurd HA.out (by simp [zAk.l0])
     | succ k1 =>
      have H:=HA.out
      clear HA
      simp only [zAk.l0] at H
      by_cases c8 : x5_1 < (l1.length : Int)
      ·rw [if_pos c8] at H
       have c8b0 : decide (x5_1 < (l1.length : Int)) = true:=decide_eq_true c8
       clear c8
       by_cases c9 : 0 ≤ x5_1
       ·rw [if_pos c9] at H
        have c9b0 : decide (0 ≤ x5_1) = true:=decide_eq_true c9
        clear c9
        replace H:=Option.bind_eq_some_iff.mp H
        obtain ⟨t316,A100,H⟩:=H
        replace H : (if t316 = true then (zAk.l0 k1 l1 (wrap64 (x5_1 + 1))) else (some false)) = some r:=H
        have A10:=Aside0.mk A100
        clear A100
        by_cases c11 : t316 = true
        ·subst c11
         have H1 : (zAk.l0 k1 l1 (wrap64 (x5_1 + 1))) = some r:=by rw [if_pos rfl] at H; exact H
         clear H
         have H:=H1
         clear H1
         have H':=Aside0.mk H
         clear H
         have p315 : 0 ≤ (x5_1 : Int):=of_decide_eq_true (by first | (with_reducible assumption) | assumption)
         have q315 : x5_1 < (l1.length : Int):=of_decide_eq_true (by first | (with_reducible assumption) | assumption)
         obtain ⟨ad315,e315,hx315_0⟩:=Kd.at_int HR1.out x5_1 p315 q315
         cases e315
         replace p315:=eq_true p315
         replace q315:=eq_true q315
         go_wp2_with (first | ((with_reducible refine zAA (f:=58) rfl ?_); refine goesL_ (some 27) rfl rfl Try.func58 (by kernel_rfl) rfl #[.int .i64 (rd l1 x5_1)] rfl (by (try simp only [List.map_toArray,List.map_cons,List.map_nil]); first | done | rfl | (simp only [List.length_drop,List.length_take]; rfl)) ?_; (with_reducible refine (zBe.calls (rd l1 x5_1) true _ A10.out).mono ?_); rintro e w' ⟨rfl,⟨nd,rfl⟩⟩; refine ⟨_,rfl,?_⟩))
         go_roundg k1
         case measure => have:=HK1.out; omega
         case rel => exact ⟨(wrap64 (x5_1 + 1)),(by first | rfl | (simp; done) | (simp [*]; done)),H',⟨by have:=HK1.out; omega⟩,by repeat (first | exact Drawn0.refl _ | apply Drawn0.step)⟩
        ·replace c11:=Bool.eq_false_iff.mpr c11
         subst c11
         have H1 : (some false) = some r:=by rw [if_neg (show ¬ (false = true) by decide)] at H; exact H
         clear H
         have H:=H1
         clear H1
         obtain rfl:=Option.some.inj H
         have p315 : 0 ≤ (x5_1 : Int):=of_decide_eq_true (by first | (with_reducible assumption) | assumption)
         have q315 : x5_1 < (l1.length : Int):=of_decide_eq_true (by first | (with_reducible assumption) | assumption)
         obtain ⟨ad315,e315,hx315_0⟩:=Kd.at_int HR1.out x5_1 p315 q315
         cases e315
         replace p315:=eq_true p315
         replace q315:=eq_true q315
         go_wp2_with (first | ((with_reducible refine zAA (f:=58) rfl ?_); refine goesL_ (some 27) rfl rfl Try.func58 (by kernel_rfl) rfl #[.int .i64 (rd l1 x5_1)] rfl (by (try simp only [List.map_toArray,List.map_cons,List.map_nil]); first | done | rfl | (simp only [List.length_drop,List.length_take]; rfl)) ?_; (with_reducible refine (zBe.calls (rd l1 x5_1) false _ A10.out).mono ?_); rintro e w' ⟨rfl,⟨nd,rfl⟩⟩; refine ⟨_,rfl,?_⟩))
         go_ret
         exact ⟨by first | rfl | (simp; done) | (simp [*]; done),by repeat (first | exact Drawn0.refl _ | apply Drawn0.step)⟩
       ·rw [if_neg c9] at H
        exact absurd H (by simp)
      ·rw [if_neg c8] at H
       have c8b0 : decide (x5_1 < (l1.length : Int)) = false:=decide_eq_false c8
       clear c8
       obtain rfl:=Option.some.inj H
       go_wp2
       go_ret
       exact ⟨by first | rfl | (simp; done) | (simp [*]; done),by repeat (first | exact Drawn0.refl _ | apply Drawn0.step)⟩
   ·rw [if_neg c7] at H
    have c7b0 : (a0 == 6) = false:=beq_eq_false_iff_ne.mpr c7
    have c7b1 : (a0 != 6) = true:=bne_iff_ne.mpr c7
    have HC12:=Aside0.mk H
    clear H
    go_enter Try.func49,Try.ntmps49
    go_upto_if 29 with (fail)
    go_cut [29] (fun v29 wc => ∃ (kq : Nat) (x29_11 : Bool),v29 = .bool x29_11 ∧ Aside0 (zAk.j1 kq l1 a0 x29_11 = some r) ∧ Aside0 (kq ≤ k) ∧ Drawn0 w wc)
    case first =>
     have H:=HC12.out
     clear HC12
     by_cases c13 : a0 = 7
     ·rw [if_pos c13] at H
      have c13b0 : (a0 == 7) = true:=beq_iff_eq.mpr c13
      have c13b1 : (a0 != 7) = false:=bne_eq_false_iff_eq.mpr c13
      clear c13
      (first | rw [c13b0] | (simp only [i64_w,i32_w]; rw [c13b0]) | skip)
      have H':=Aside0.mk H
      clear H
      go_wp2
      go_meet
      case rel => exact ⟨_,((a0 == 7)),(by first | rfl | (simp; done) | (simp [*]; done)),H',⟨by first | omega | exact Nat.le_refl _⟩,by repeat (first | exact Drawn0.refl _ | apply Drawn0.step)⟩
     ·rw [if_neg c13] at H
      have c13b0 : (a0 == 7) = false:=beq_eq_false_iff_ne.mpr c13
      have c13b1 : (a0 != 7) = true:=bne_iff_ne.mpr c13
      (first | rw [c13b0] | (simp only [i64_w,i32_w]; rw [c13b0]) | skip)
      by_cases c14 : a0 = 15
      ·rw [if_pos c14] at H
       have c14b0 : (a0 == 15) = true:=beq_iff_eq.mpr c14
       have c14b1 : (a0 != 15) = false:=bne_eq_false_iff_eq.mpr c14
       clear c14
       have H':=Aside0.mk H
       clear H
       go_wp2
       go_meet
       case rel => exact ⟨_,((a0 == 15)),(by first | rfl | (simp; done) | (simp [*]; done)),H',⟨by first | omega | exact Nat.le_refl _⟩,by repeat (first | exact Drawn0.refl _ | apply Drawn0.step)⟩
      ·rw [if_neg c14] at H
       have c14b0 : (a0 == 15) = false:=beq_eq_false_iff_ne.mpr c14
       have c14b1 : (a0 != 15) = true:=bne_iff_ne.mpr c14
       by_cases c15 : a0 = 17
       ·rw [if_pos c15] at H
        have c15b0 : (a0 == 17) = true:=beq_iff_eq.mpr c15
        have c15b1 : (a0 != 17) = false:=bne_eq_false_iff_eq.mpr c15
        clear c15
        have H':=Aside0.mk H
        clear H
        go_wp2
        go_meet
        case rel => exact ⟨_,((a0 == 17)),(by first | rfl | (simp; done) | (simp [*]; done)),H',⟨by first | omega | exact Nat.le_refl _⟩,by repeat (first | exact Drawn0.refl _ | apply Drawn0.step)⟩
       ·rw [if_neg c15] at H
        have c15b0 : (a0 == 17) = false:=beq_eq_false_iff_ne.mpr c15
        have c15b1 : (a0 != 17) = true:=bne_iff_ne.mpr c15
        by_cases c16 : a0 = 23
        ·rw [if_pos c16] at H
         have c16b0 : (a0 == 23) = true:=beq_iff_eq.mpr c16
         have c16b1 : (a0 != 23) = false:=bne_eq_false_iff_eq.mpr c16
         clear c16
         have H':=Aside0.mk H
         clear H
         go_wp2
         go_meet
         case rel => exact ⟨_,((a0 == 23)),(by first | rfl | (simp; done) | (simp [*]; done)),H',⟨by first | omega | exact Nat.le_refl _⟩,by repeat (first | exact Drawn0.refl _ | apply Drawn0.step)⟩
        ·rw [if_neg c16] at H
         have c16b0 : (a0 == 23) = false:=beq_eq_false_iff_ne.mpr c16
         have c16b1 : (a0 != 23) = true:=bne_iff_ne.mpr c16
         have H':=Aside0.mk H
         clear H
         go_wp2
         go_meet
         case rel => exact ⟨_,((a0 == 26)),(by first | rfl | (simp; done) | (simp [*]; done)),H',⟨by first | omega | exact Nat.le_refl _⟩,by repeat (first | exact Drawn0.refl _ | apply Drawn0.step)⟩
    case rest =>
     clear HC12
     try clear c1
     try clear p2
     try clear c3
     try clear c3b0
     try clear c3b1
     try clear p3
     try clear q3
     try clear hx3
     try clear c4
     try clear c5
     try clear c5b0
     try clear c5b1
     try clear p6
     try clear c7
     try clear c7b0
     try clear c7b1
     try clear c8
     try clear c8b0
     try clear c9
     try clear c9b0
     try clear c11
     try clear c13
     try clear c13b0
     try clear c13b1
     try clear c14
     try clear c14b0
     try clear c14b1
     try clear c15
     try clear c15b0
     try clear c15b1
     try clear c16
     try clear c16b0
     try clear c16b1
     try clear hx315_0
     try clear p2
     try clear p315
     try clear q315
     obtain ⟨kq,x29_11,rfl,HA,HJ11,⟨mc11,rfl⟩⟩:=hcut
     cases kq with
     | zero => exact absurd HA.out (by simp [zAk.j1])
     | succ kj11 =>
      have H:=HA.out
      clear HA
      simp only [zAk.j1] at H
      by_cases c17 : x29_11 = true
      ·subst c17
       have H1 : (if (l1.length : Int) = 1 then ((zAH.f kj11 l1).bind fun t317 => (some t317)) else (some false)) = some r:=by rw [if_pos rfl] at H; exact H
       clear H
       have H:=H1
       clear H1
       by_cases c18 : (l1.length : Int) = 1
       ·rw [if_pos c18] at H
        have c18b0 : ((l1.length : Int) == 1) = true:=beq_iff_eq.mpr c18
        have c18b1 : ((l1.length : Int) != 1) = false:=bne_eq_false_iff_eq.mpr c18
        clear c18
        replace H:=Option.bind_eq_some_iff.mp H
        obtain ⟨t317,A190,H⟩:=H
        replace H : (some t317) = some r:=H
        have A19:=Aside0.mk A190
        clear A190
        obtain rfl:=Option.some.inj H
        go_wp2_with (first | (go_at_call 59; (with_reducible refine (zAH.calls kj11 _ _ l1 t317 _ ?side1 ?side2 A19.out).mono ?_); (case side1 => repeat (first | exact HR1.out | (with_reducible refine Kd.C_alloc ?_ _) | (with_reducible refine Kd.C_drewN ?_ _) | (with_reducible refine Kd.C_drew ?_))); (case side2 => exact HC1.out); rintro e w' ⟨rfl,⟨nd,rfl⟩⟩))
        go_ret
        exact ⟨by first | rfl | (simp; done) | (simp [*]; done),by repeat (first | exact Drawn0.refl _ | apply Drawn0.step)⟩
       ·rw [if_neg c18] at H
        have c18b0 : ((l1.length : Int) == 1) = false:=beq_eq_false_iff_ne.mpr c18
        have c18b1 : ((l1.length : Int) != 1) = true:=bne_iff_ne.mpr c18
        obtain rfl:=Option.some.inj H
        go_wp2
        go_ret
        exact ⟨by first | rfl | (simp; done) | (simp [*]; done),by repeat (first | exact Drawn0.refl _ | apply Drawn0.step)⟩
      ·replace c17:=Bool.eq_false_iff.mpr c17
       subst c17
       have H1 : (if a0 = 8 then (zAk.j2 kj11 l1 a0 (a0 == 8)) else (zAk.j2 kj11 l1 a0 (a0 == 27))) = some r:=by rw [if_neg (show ¬ (false = true) by decide)] at H; exact H
       clear H
       have H:=H1
       clear H1
       have HC20:=Aside0.mk H
       clear H
       go_upto_if 42 with (fail)
       go_cut [42] (fun v42 wc => ∃ (kq : Nat) (x42_19 : Bool),v42 = .bool x42_19 ∧ Aside0 (zAk.j2 kq l1 a0 x42_19 = some r) ∧ Aside0 (kq ≤ kj11) ∧ Drawn0 w wc)
       case first =>
        have H:=HC20.out
        clear HC20
        by_cases c21 : a0 = 8
        ·rw [if_pos c21] at H
         have c21b0 : (a0 == 8) = true:=beq_iff_eq.mpr c21
         have c21b1 : (a0 != 8) = false:=bne_eq_false_iff_eq.mpr c21
         clear c21
         (first | rw [c21b0] | (simp only [i64_w,i32_w]; rw [c21b0]) | skip)
         have H':=Aside0.mk H
         clear H
         go_wp2
         go_meet
         case rel => exact ⟨_,((a0 == 8)),(by first | rfl | (simp; done) | (simp [*]; done)),H',⟨by have:=HJ11.out; first | omega | exact Nat.le_refl _⟩,by repeat (first | exact Drawn0.refl _ | apply Drawn0.step)⟩
        ·rw [if_neg c21] at H
         have c21b0 : (a0 == 8) = false:=beq_eq_false_iff_ne.mpr c21
         have c21b1 : (a0 != 8) = true:=bne_iff_ne.mpr c21
         (first | rw [c21b0] | (simp only [i64_w,i32_w]; rw [c21b0]) | skip)
         have H':=Aside0.mk H
         clear H
         go_wp2
         go_meet
         case rel => exact ⟨_,((a0 == 27)),(by first | rfl | (simp; done) | (simp [*]; done)),H',⟨by have:=HJ11.out; first | omega | exact Nat.le_refl _⟩,by repeat (first | exact Drawn0.refl _ | apply Drawn0.step)⟩
       case rest =>
        clear HC20
        try clear c1
        try clear c2
        try clear p2
        try clear c3
        try clear c3b0
        try clear c3b1
        try clear p3
        try clear q3
        try clear hx3
        try clear c4
        try clear c5
        try clear c5b0
        try clear c5b1
        try clear p6
        try clear c7
        try clear c7b0
        try clear c7b1
        try clear c8
        try clear c8b0
        try clear c9
        try clear c9b0
        try clear c11
        try clear c13
        try clear c13b0
        try clear c13b1
        try clear c14
        try clear c14b0
        try clear c14b1
        try clear c15
        try clear c15b0
        try clear c15b1
        try clear c16
        try clear c16b0
        try clear c16b1
        try clear c17
        try clear c18
        try clear c18b0
        try clear c18b1
        try clear c21
        try clear c21b0
        try clear c21b1
        try clear hx315_0
        try clear p2
        try clear p3
        try clear p315
        try clear p6
        try clear q3
        try clear q315
        obtain ⟨kq,x42_19,rfl,HA,HJ19,⟨mc19,rfl⟩⟩:=hcut
        cases kq with
        | zero => exact absurd HA.out (by simp [zAk.j2])
        | succ kj19 =>
         have H:=HA.out
         clear HA
         simp only [zAk.j2] at H
         by_cases c22 : x42_19 = true
         ·subst c22
          have H1 : (if (l1.length : Int) = 2 then ((zAH.f kj19 l1).bind fun t318 => (some t318)) else (some false)) = some r:=by rw [if_pos rfl] at H; exact H
          clear H
          have H:=H1
          clear H1
          by_cases c23 : (l1.length : Int) = 2
          ·rw [if_pos c23] at H
           have c23b0 : ((l1.length : Int) == 2) = true:=beq_iff_eq.mpr c23
           have c23b1 : ((l1.length : Int) != 2) = false:=bne_eq_false_iff_eq.mpr c23
           clear c23
           replace H:=Option.bind_eq_some_iff.mp H
           obtain ⟨t318,A240,H⟩:=H
           replace H : (some t318) = some r:=H
           have A24:=Aside0.mk A240
           clear A240
           obtain rfl:=Option.some.inj H
           go_wp2_with (first | (go_at_call 59; (with_reducible refine (zAH.calls kj19 _ _ l1 t318 _ ?side1 ?side2 A24.out).mono ?_); (case side1 => repeat (first | exact HR1.out | (with_reducible refine Kd.C_alloc ?_ _) | (with_reducible refine Kd.C_drewN ?_ _) | (with_reducible refine Kd.C_drew ?_))); (case side2 => exact HC1.out); rintro e w' ⟨rfl,⟨nd,rfl⟩⟩))
           go_ret
           exact ⟨by first | rfl | (simp; done) | (simp [*]; done),by repeat (first | exact Drawn0.refl _ | apply Drawn0.step)⟩
          ·rw [if_neg c23] at H
           have c23b0 : ((l1.length : Int) == 2) = false:=beq_eq_false_iff_ne.mpr c23
           have c23b1 : ((l1.length : Int) != 2) = true:=bne_iff_ne.mpr c23
           obtain rfl:=Option.some.inj H
           go_wp2
           go_ret
           exact ⟨by first | rfl | (simp; done) | (simp [*]; done),by repeat (first | exact Drawn0.refl _ | apply Drawn0.step)⟩
         ·replace c22:=Bool.eq_false_iff.mpr c22
          subst c22
          have H1 : (if a0 = 9 then (if (l1.length : Int) = 1 then (if 0 < (l1.length : Int) then (some ((rd l1 0) == 18)) else (none)) else (some false)) else (if a0 = 10 then (if (l1.length : Int) = 2 then (if 0 < (l1.length : Int) then (if (rd l1 0) = 18 then (if 1 < (l1.length : Int) then ((zAG.f (rd l1 1)).bind fun t322 => (some t322)) else (none)) else (some false)) else (none)) else (some false)) else (if a0 = 11 then (if (l1.length : Int) = 3 then (if 0 < (l1.length : Int) then ((zAG.f (rd l1 0)).bind fun t324 => (if t324 = true then (if 1 < (l1.length : Int) then (if (rd l1 1) = 6 then (if 2 < (l1.length : Int) then (some ((rd l1 2) == 6)) else (none)) else (some false)) else (none)) else (some false))) else (none)) else (some false)) else (if a0 = 12 then (if (l1.length : Int) = 2 then (if 0 < (l1.length : Int) then ((zAG.f (rd l1 0)).bind fun t328 => (if t328 = true then (if 1 < (l1.length : Int) then (some ((rd l1 1) == 6)) else (none)) else (some false))) else (none)) else (some false)) else (if a0 = 13 then (if (l1.length : Int) ≥ 1 then (if 0 < (l1.length : Int) then (if (rd l1 0) = 19 then (if 1 ≤ (l1.length : Int) then ((zAH.f kj19 (l1.drop 1)).bind fun t332 => (some t332)) else (none)) else (some false)) else (none)) else (some false)) else (if a0 = 14 then (if (l1.length : Int) ≤ 1 then ((zAH.f kj19 l1).bind fun t333 => (some t333)) else (some false)) else (if a0 = 16 then (if (l1.length : Int) = 2 then (if 0 < (l1.length : Int) then (if (rd l1 0) = 6 then (if 1 < (l1.length : Int) then (some ((rd l1 1) == 6)) else (none)) else (some false)) else (none)) else (some false)) else (some ((l1.length : Int) == 0))))))))) = some r:=by rw [if_neg (show ¬ (false = true) by decide)] at H; exact H
          clear H
          have H:=H1
          clear H1
          by_cases c25 : a0 = 9
          ·rw [if_pos c25] at H
           have c25b0 : (a0 == 9) = true:=beq_iff_eq.mpr c25
           have c25b1 : (a0 != 9) = false:=bne_eq_false_iff_eq.mpr c25
           clear c25
           by_cases c26 : (l1.length : Int) = 1
           ·rw [if_pos c26] at H
            have c26b0 : ((l1.length : Int) == 1) = true:=beq_iff_eq.mpr c26
            have c26b1 : ((l1.length : Int) != 1) = false:=bne_eq_false_iff_eq.mpr c26
            clear c26
            by_cases c27 : 0 < (l1.length : Int)
            ·rw [if_pos c27] at H
             have c27b0 : decide (0 < (l1.length : Int)) = true:=decide_eq_true c27
             have c27b1 : decide (0 < l1.length) = true:=decide_eq_true (by omega)
             clear c27
             obtain rfl:=Option.some.inj H
             have p319 : 0 ≤ (0 : Int):=(by omega)
             have q319 : 0 < (l1.length : Int):=of_decide_eq_true (by first | (with_reducible assumption) | assumption)
             obtain ⟨ad319,e319,hx319_0⟩:=Kd.at_int HR1.out 0 p319 q319
             cases e319
             have qi319 : (0 < l1.length) = True:=eq_true (by omega)
             (try rw [show ((0 : Int)).toNat = 0 from rfl] at hx319_0)
             (try rw [Addr.add_zero'] at hx319_0)
             replace p319:=eq_true p319
             replace q319:=eq_true q319
             go_wp2
             go_ret
             exact ⟨by first | rfl | (simp; done) | (simp [*]; done),by repeat (first | exact Drawn0.refl _ | apply Drawn0.step)⟩
            ·rw [if_neg c27] at H
             exact absurd H (by simp)
           ·rw [if_neg c26] at H
            have c26b0 : ((l1.length : Int) == 1) = false:=beq_eq_false_iff_ne.mpr c26
            have c26b1 : ((l1.length : Int) != 1) = true:=bne_iff_ne.mpr c26
            obtain rfl:=Option.some.inj H
            go_wp2
            go_ret
            exact ⟨by first | rfl | (simp; done) | (simp [*]; done),by repeat (first | exact Drawn0.refl _ | apply Drawn0.step)⟩
          ·rw [if_neg c25] at H
           have c25b0 : (a0 == 9) = false:=beq_eq_false_iff_ne.mpr c25
           have c25b1 : (a0 != 9) = true:=bne_iff_ne.mpr c25
           by_cases c28 : a0 = 10
           ·rw [if_pos c28] at H
            have c28b0 : (a0 == 10) = true:=beq_iff_eq.mpr c28
            have c28b1 : (a0 != 10) = false:=bne_eq_false_iff_eq.mpr c28
            clear c28
            by_cases c29 : (l1.length : Int) = 2
            ·rw [if_pos c29] at H
             have c29b0 : ((l1.length : Int) == 2) = true:=beq_iff_eq.mpr c29
             have c29b1 : ((l1.length : Int) != 2) = false:=bne_eq_false_iff_eq.mpr c29
             clear c29
             by_cases c30 : 0 < (l1.length : Int)
             ·rw [if_pos c30] at H
              have c30b0 : decide (0 < (l1.length : Int)) = true:=decide_eq_true c30
              have c30b1 : decide (0 < l1.length) = true:=decide_eq_true (by omega)
              clear c30
              by_cases c31 : (rd l1 0) = 18
              ·rw [if_pos c31] at H
               have c31b0 : ((rd l1 0) == 18) = true:=beq_iff_eq.mpr c31
               have c31b1 : ((rd l1 0) != 18) = false:=bne_eq_false_iff_eq.mpr c31
               clear c31
               by_cases c32 : 1 < (l1.length : Int)
               ·rw [if_pos c32] at H
                have c32b0 : decide (1 < (l1.length : Int)) = true:=decide_eq_true c32
                have c32b1 : decide (1 < l1.length) = true:=decide_eq_true (by omega)
                clear c32
                replace H:=Option.bind_eq_some_iff.mp H
                obtain ⟨t322,A330,H⟩:=H
                replace H : (some t322) = some r:=H
                have A33:=Aside0.mk A330
                clear A330
                obtain rfl:=Option.some.inj H
                have p320 : 0 ≤ (0 : Int):=(by omega)
                have q320 : 0 < (l1.length : Int):=of_decide_eq_true (by first | (with_reducible assumption) | assumption)
                obtain ⟨ad320,e320,hx320_0⟩:=Kd.at_int HR1.out 0 p320 q320
                cases e320
                have qi320 : (0 < l1.length) = True:=eq_true (by omega)
                (try rw [show ((0 : Int)).toNat = 0 from rfl] at hx320_0)
                (try rw [Addr.add_zero'] at hx320_0)
                replace p320:=eq_true p320
                replace q320:=eq_true q320
                have p321 : 0 ≤ (1 : Int):=(by omega)
                have q321 : 1 < (l1.length : Int):=of_decide_eq_true (by first | (with_reducible assumption) | assumption)
                obtain ⟨ad321,e321,hx321_0⟩:=Kd.at_int HR1.out 1 p321 q321
                obtain rfl : ad320 = ad321:=(by injection e321)
                (try simp only [show (1 : Int).toNat = 1 from rfl,Nat.reduceMul,Nat.reduceEqDiff,Go.Addr.add,↓reduceIte] at hx321_0)
                have qi321 : (1 < l1.length) = True:=eq_true (by omega)
                (try rw [show ((1 : Int)).toNat = 1 from rfl] at hx321_0)
                replace p321:=eq_true p321
                replace q321:=eq_true q321
                go_wp2_with (first | (go_at_call 60; (with_reducible refine (zAG.calls (rd l1 1) t322 _ A33.out).mono ?_); rintro e w' ⟨rfl,⟨nd,rfl⟩⟩))
                go_ret
                exact ⟨by first | rfl | (simp; done) | (simp [*]; done),by repeat (first | exact Drawn0.refl _ | apply Drawn0.step)⟩
               ·rw [if_neg c32] at H
                exact absurd H (by simp)
              ·rw [if_neg c31] at H
               have c31b0 : ((rd l1 0) == 18) = false:=beq_eq_false_iff_ne.mpr c31
               have c31b1 : ((rd l1 0) != 18) = true:=bne_iff_ne.mpr c31
               obtain rfl:=Option.some.inj H
               have p320 : 0 ≤ (0 : Int):=(by omega)
               have q320 : 0 < (l1.length : Int):=of_decide_eq_true (by first | (with_reducible assumption) | assumption)
               obtain ⟨ad320,e320,hx320_0⟩:=Kd.at_int HR1.out 0 p320 q320
               cases e320
               have qi320 : (0 < l1.length) = True:=eq_true (by omega)
               (try rw [show ((0 : Int)).toNat = 0 from rfl] at hx320_0)
               (try rw [Addr.add_zero'] at hx320_0)
               replace p320:=eq_true p320
               replace q320:=eq_true q320
               go_wp2
               go_ret
               exact ⟨by first | rfl | (simp; done) | (simp [*]; done),by repeat (first | exact Drawn0.refl _ | apply Drawn0.step)⟩
             ·rw [if_neg c30] at H
              exact absurd H (by simp)
            ·rw [if_neg c29] at H
             have c29b0 : ((l1.length : Int) == 2) = false:=beq_eq_false_iff_ne.mpr c29
             have c29b1 : ((l1.length : Int) != 2) = true:=bne_iff_ne.mpr c29
             obtain rfl:=Option.some.inj H
             go_wp2
             go_ret
             exact ⟨by first | rfl | (simp; done) | (simp [*]; done),by repeat (first | exact Drawn0.refl _ | apply Drawn0.step)⟩
           ·rw [if_neg c28] at H
            have c28b0 : (a0 == 10) = false:=beq_eq_false_iff_ne.mpr c28
            have c28b1 : (a0 != 10) = true:=bne_iff_ne.mpr c28
            by_cases c34 : a0 = 11
            ·rw [if_pos c34] at H
             have c34b0 : (a0 == 11) = true:=beq_iff_eq.mpr c34
             have c34b1 : (a0 != 11) = false:=bne_eq_false_iff_eq.mpr c34
             clear c34
             by_cases c35 : (l1.length : Int) = 3
             ·rw [if_pos c35] at H
              have c35b0 : ((l1.length : Int) == 3) = true:=beq_iff_eq.mpr c35
              have c35b1 : ((l1.length : Int) != 3) = false:=bne_eq_false_iff_eq.mpr c35
              clear c35
              by_cases c36 : 0 < (l1.length : Int)
              ·rw [if_pos c36] at H
               have c36b0 : decide (0 < (l1.length : Int)) = true:=decide_eq_true c36
               have c36b1 : decide (0 < l1.length) = true:=decide_eq_true (by omega)
               clear c36
               replace H:=Option.bind_eq_some_iff.mp H
               obtain ⟨t324,A370,H⟩:=H
               replace H : (if t324 = true then (if 1 < (l1.length : Int) then (if (rd l1 1) = 6 then (if 2 < (l1.length : Int) then (some ((rd l1 2) == 6)) else (none)) else (some false)) else (none)) else (some false)) = some r:=H
               have A37:=Aside0.mk A370
               clear A370
               by_cases c38 : t324 = true
               ·subst c38
                have H1 : (if 1 < (l1.length : Int) then (if (rd l1 1) = 6 then (if 2 < (l1.length : Int) then (some ((rd l1 2) == 6)) else (none)) else (some false)) else (none)) = some r:=by rw [if_pos rfl] at H; exact H
                clear H
                have H:=H1
                clear H1
                by_cases c39 : 1 < (l1.length : Int)
                ·rw [if_pos c39] at H
                 have c39b0 : decide (1 < (l1.length : Int)) = true:=decide_eq_true c39
                 have c39b1 : decide (1 < l1.length) = true:=decide_eq_true (by omega)
                 clear c39
                 by_cases c40 : (rd l1 1) = 6
                 ·rw [if_pos c40] at H
                  have c40b0 : ((rd l1 1) == 6) = true:=beq_iff_eq.mpr c40
                  have c40b1 : ((rd l1 1) != 6) = false:=bne_eq_false_iff_eq.mpr c40
                  clear c40
                  by_cases c41 : 2 < (l1.length : Int)
                  ·rw [if_pos c41] at H
                   have c41b0 : decide (2 < (l1.length : Int)) = true:=decide_eq_true c41
                   have c41b1 : decide (2 < l1.length) = true:=decide_eq_true (by omega)
                   clear c41
                   obtain rfl:=Option.some.inj H
                   have p323 : 0 ≤ (0 : Int):=(by omega)
                   have q323 : 0 < (l1.length : Int):=of_decide_eq_true (by first | (with_reducible assumption) | assumption)
                   obtain ⟨ad323,e323,hx323_0⟩:=Kd.at_int HR1.out 0 p323 q323
                   cases e323
                   have qi323 : (0 < l1.length) = True:=eq_true (by omega)
                   (try rw [show ((0 : Int)).toNat = 0 from rfl] at hx323_0)
                   (try rw [Addr.add_zero'] at hx323_0)
                   replace p323:=eq_true p323
                   replace q323:=eq_true q323
                   go_wp2_with (first | (go_at_call 60; (with_reducible refine (zAG.calls (rd l1 0) true _ A37.out).mono ?_); rintro e w' ⟨rfl,⟨nd,rfl⟩⟩; have p325 : 0 ≤ (1 : Int):=(by omega); have q325 : 1 < (l1.length : Int):=of_decide_eq_true (by first | (with_reducible assumption) | assumption); obtain ⟨ad325,e325,hx325_0⟩:=Kd.at_int HR1.out 1 p325 q325; obtain rfl : ad323 = ad325:=(by injection e325); (try simp only [show (1 : Int).toNat = 1 from rfl,Nat.reduceMul,Nat.reduceEqDiff,Go.Addr.add,↓reduceIte] at hx325_0); have qi325 : (1 < l1.length) = True:=eq_true (by omega); (try rw [show ((1 : Int)).toNat = 1 from rfl] at hx325_0); replace p325:=eq_true p325; replace q325:=eq_true q325; have p326 : 0 ≤ (2 : Int):=(by omega); have q326 : 2 < (l1.length : Int):=of_decide_eq_true (by first | (with_reducible assumption) | assumption); obtain ⟨ad326,e326,hx326_0⟩:=Kd.at_int HR1.out 2 p326 q326; obtain rfl : ad323 = ad326:=(by injection e326); (try simp only [show (2 : Int).toNat = 2 from rfl,Nat.reduceMul,Nat.reduceEqDiff,Go.Addr.add,↓reduceIte] at hx326_0); have qi326 : (2 < l1.length) = True:=eq_true (by omega); (try rw [show ((2 : Int)).toNat = 2 from rfl] at hx326_0); replace p326:=eq_true p326; replace q326:=eq_true q326))
                   go_ret
                   exact ⟨by first | rfl | (simp; done) | (simp [*]; done),by repeat (first | exact Drawn0.refl _ | apply Drawn0.step)⟩
                  ·rw [if_neg c41] at H
                   exact absurd H (by simp)
                 ·rw [if_neg c40] at H
                  have c40b0 : ((rd l1 1) == 6) = false:=beq_eq_false_iff_ne.mpr c40
                  have c40b1 : ((rd l1 1) != 6) = true:=bne_iff_ne.mpr c40
                  obtain rfl:=Option.some.inj H
                  have p323 : 0 ≤ (0 : Int):=(by omega)
                  have q323 : 0 < (l1.length : Int):=of_decide_eq_true (by first | (with_reducible assumption) | assumption)
                  obtain ⟨ad323,e323,hx323_0⟩:=Kd.at_int HR1.out 0 p323 q323
                  cases e323
                  have qi323 : (0 < l1.length) = True:=eq_true (by omega)
                  (try rw [show ((0 : Int)).toNat = 0 from rfl] at hx323_0)
                  (try rw [Addr.add_zero'] at hx323_0)
                  replace p323:=eq_true p323
                  replace q323:=eq_true q323
                  go_wp2_with (first | (go_at_call 60; (with_reducible refine (zAG.calls (rd l1 0) true _ A37.out).mono ?_); rintro e w' ⟨rfl,⟨nd,rfl⟩⟩; have p325 : 0 ≤ (1 : Int):=(by omega); have q325 : 1 < (l1.length : Int):=of_decide_eq_true (by first | (with_reducible assumption) | assumption); obtain ⟨ad325,e325,hx325_0⟩:=Kd.at_int HR1.out 1 p325 q325; obtain rfl : ad323 = ad325:=(by injection e325); (try simp only [show (1 : Int).toNat = 1 from rfl,Nat.reduceMul,Nat.reduceEqDiff,Go.Addr.add,↓reduceIte] at hx325_0); have qi325 : (1 < l1.length) = True:=eq_true (by omega); (try rw [show ((1 : Int)).toNat = 1 from rfl] at hx325_0); replace p325:=eq_true p325; replace q325:=eq_true q325))
                  go_ret
                  exact ⟨by first | rfl | (simp; done) | (simp [*]; done),by repeat (first | exact Drawn0.refl _ | apply Drawn0.step)⟩
                ·rw [if_neg c39] at H
                 exact absurd H (by simp)
               ·replace c38:=Bool.eq_false_iff.mpr c38
                subst c38
                have H1 : (some false) = some r:=by rw [if_neg (show ¬ (false = true) by decide)] at H; exact H
                clear H
                have H:=H1
                clear H1
                obtain rfl:=Option.some.inj H
                have p323 : 0 ≤ (0 : Int):=(by omega)
                have q323 : 0 < (l1.length : Int):=of_decide_eq_true (by first | (with_reducible assumption) | assumption)
                obtain ⟨ad323,e323,hx323_0⟩:=Kd.at_int HR1.out 0 p323 q323
                cases e323
                have qi323 : (0 < l1.length) = True:=eq_true (by omega)
                (try rw [show ((0 : Int)).toNat = 0 from rfl] at hx323_0)
                (try rw [Addr.add_zero'] at hx323_0)
                replace p323:=eq_true p323
                replace q323:=eq_true q323
                go_wp2_with (first | (go_at_call 60; (with_reducible refine (zAG.calls (rd l1 0) false _ A37.out).mono ?_); rintro e w' ⟨rfl,⟨nd,rfl⟩⟩))
                go_ret
                exact ⟨by first | rfl | (simp; done) | (simp [*]; done),by repeat (first | exact Drawn0.refl _ | apply Drawn0.step)⟩
              ·rw [if_neg c36] at H
               exact absurd H (by simp)
             ·rw [if_neg c35] at H
              have c35b0 : ((l1.length : Int) == 3) = false:=beq_eq_false_iff_ne.mpr c35
              have c35b1 : ((l1.length : Int) != 3) = true:=bne_iff_ne.mpr c35
              obtain rfl:=Option.some.inj H
              go_wp2
              go_ret
              exact ⟨by first | rfl | (simp; done) | (simp [*]; done),by repeat (first | exact Drawn0.refl _ | apply Drawn0.step)⟩
            ·rw [if_neg c34] at H
             have c34b0 : (a0 == 11) = false:=beq_eq_false_iff_ne.mpr c34
             have c34b1 : (a0 != 11) = true:=bne_iff_ne.mpr c34
             by_cases c42 : a0 = 12
             ·rw [if_pos c42] at H
              have c42b0 : (a0 == 12) = true:=beq_iff_eq.mpr c42
              have c42b1 : (a0 != 12) = false:=bne_eq_false_iff_eq.mpr c42
              clear c42
              by_cases c43 : (l1.length : Int) = 2
              ·rw [if_pos c43] at H
               have c43b0 : ((l1.length : Int) == 2) = true:=beq_iff_eq.mpr c43
               have c43b1 : ((l1.length : Int) != 2) = false:=bne_eq_false_iff_eq.mpr c43
               clear c43
               by_cases c44 : 0 < (l1.length : Int)
               ·rw [if_pos c44] at H
                have c44b0 : decide (0 < (l1.length : Int)) = true:=decide_eq_true c44
                have c44b1 : decide (0 < l1.length) = true:=decide_eq_true (by omega)
                clear c44
                replace H:=Option.bind_eq_some_iff.mp H
                obtain ⟨t328,A450,H⟩:=H
                replace H : (if t328 = true then (if 1 < (l1.length : Int) then (some ((rd l1 1) == 6)) else (none)) else (some false)) = some r:=H
                have A45:=Aside0.mk A450
                clear A450
                by_cases c46 : t328 = true
                ·subst c46
                 have H1 : (if 1 < (l1.length : Int) then (some ((rd l1 1) == 6)) else (none)) = some r:=by rw [if_pos rfl] at H; exact H
                 clear H
                 have H:=H1
                 clear H1
                 by_cases c47 : 1 < (l1.length : Int)
                 ·rw [if_pos c47] at H
                  have c47b0 : decide (1 < (l1.length : Int)) = true:=decide_eq_true c47
                  have c47b1 : decide (1 < l1.length) = true:=decide_eq_true (by omega)
                  clear c47
                  obtain rfl:=Option.some.inj H
                  have p327 : 0 ≤ (0 : Int):=(by omega)
                  have q327 : 0 < (l1.length : Int):=of_decide_eq_true (by first | (with_reducible assumption) | assumption)
                  obtain ⟨ad327,e327,hx327_0⟩:=Kd.at_int HR1.out 0 p327 q327
                  cases e327
                  have qi327 : (0 < l1.length) = True:=eq_true (by omega)
                  (try rw [show ((0 : Int)).toNat = 0 from rfl] at hx327_0)
                  (try rw [Addr.add_zero'] at hx327_0)
                  replace p327:=eq_true p327
                  replace q327:=eq_true q327
                  go_wp2_with (first | (go_at_call 60; (with_reducible refine (zAG.calls (rd l1 0) true _ A45.out).mono ?_); rintro e w' ⟨rfl,⟨nd,rfl⟩⟩; have p329 : 0 ≤ (1 : Int):=(by omega); have q329 : 1 < (l1.length : Int):=of_decide_eq_true (by first | (with_reducible assumption) | assumption); obtain ⟨ad329,e329,hx329_0⟩:=Kd.at_int HR1.out 1 p329 q329; obtain rfl : ad327 = ad329:=(by injection e329); (try simp only [show (1 : Int).toNat = 1 from rfl,Nat.reduceMul,Nat.reduceEqDiff,Go.Addr.add,↓reduceIte] at hx329_0); have qi329 : (1 < l1.length) = True:=eq_true (by omega); (try rw [show ((1 : Int)).toNat = 1 from rfl] at hx329_0); replace p329:=eq_true p329; replace q329:=eq_true q329))
                  go_ret
                  exact ⟨by first | rfl | (simp; done) | (simp [*]; done),by repeat (first | exact Drawn0.refl _ | apply Drawn0.step)⟩
                 ·rw [if_neg c47] at H
                  exact absurd H (by simp)
                ·replace c46:=Bool.eq_false_iff.mpr c46
                 subst c46
                 have H1 : (some false) = some r:=by rw [if_neg (show ¬ (false = true) by decide)] at H; exact H
                 clear H
                 have H:=H1
                 clear H1
                 obtain rfl:=Option.some.inj H
                 have p327 : 0 ≤ (0 : Int):=(by omega)
                 have q327 : 0 < (l1.length : Int):=of_decide_eq_true (by first | (with_reducible assumption) | assumption)
                 obtain ⟨ad327,e327,hx327_0⟩:=Kd.at_int HR1.out 0 p327 q327
                 cases e327
                 have qi327 : (0 < l1.length) = True:=eq_true (by omega)
                 (try rw [show ((0 : Int)).toNat = 0 from rfl] at hx327_0)
                 (try rw [Addr.add_zero'] at hx327_0)
                 replace p327:=eq_true p327
                 replace q327:=eq_true q327
                 go_wp2_with (first | (go_at_call 60; (with_reducible refine (zAG.calls (rd l1 0) false _ A45.out).mono ?_); rintro e w' ⟨rfl,⟨nd,rfl⟩⟩))
                 go_ret
                 exact ⟨by first | rfl | (simp; done) | (simp [*]; done),by repeat (first | exact Drawn0.refl _ | apply Drawn0.step)⟩
               ·rw [if_neg c44] at H
                exact absurd H (by simp)
              ·rw [if_neg c43] at H
               have c43b0 : ((l1.length : Int) == 2) = false:=beq_eq_false_iff_ne.mpr c43
               have c43b1 : ((l1.length : Int) != 2) = true:=bne_iff_ne.mpr c43
               obtain rfl:=Option.some.inj H
               go_wp2
               go_ret
               exact ⟨by first | rfl | (simp; done) | (simp [*]; done),by repeat (first | exact Drawn0.refl _ | apply Drawn0.step)⟩
             ·rw [if_neg c42] at H
              have c42b0 : (a0 == 12) = false:=beq_eq_false_iff_ne.mpr c42
              have c42b1 : (a0 != 12) = true:=bne_iff_ne.mpr c42
              by_cases c48 : a0 = 13
              ·rw [if_pos c48] at H
               have c48b0 : (a0 == 13) = true:=beq_iff_eq.mpr c48
               have c48b1 : (a0 != 13) = false:=bne_eq_false_iff_eq.mpr c48
               clear c48
               by_cases c49 : (l1.length : Int) ≥ 1
               ·rw [if_pos c49] at H
                have c49b0 : decide (1 ≤ (l1.length : Int)) = true:=decide_eq_true c49
                have c49b1 : decide (1 ≤ l1.length) = true:=decide_eq_true (by omega)
                clear c49
                by_cases c50 : 0 < (l1.length : Int)
                ·rw [if_pos c50] at H
                 have c50b0 : decide (0 < (l1.length : Int)) = true:=decide_eq_true c50
                 have c50b1 : decide (0 < l1.length) = true:=decide_eq_true (by omega)
                 clear c50
                 by_cases c51 : (rd l1 0) = 19
                 ·rw [if_pos c51] at H
                  have c51b0 : ((rd l1 0) == 19) = true:=beq_iff_eq.mpr c51
                  have c51b1 : ((rd l1 0) != 19) = false:=bne_eq_false_iff_eq.mpr c51
                  clear c51
                  by_cases c52 : 1 ≤ (l1.length : Int)
                  ·rw [if_pos c52] at H
                   have c52b0:=eq_true c52
                   have c52b1 : decide (1 ≤ (l1.length : Int)) = true:=decide_eq_true c52
                   clear c52
                   replace H:=Option.bind_eq_some_iff.mp H
                   obtain ⟨t332,A530,H⟩:=H
                   replace H : (some t332) = some r:=H
                   have A53:=Aside0.mk A530
                   clear A530
                   obtain rfl:=Option.some.inj H
                   have p330 : 0 ≤ (0 : Int):=(by omega)
                   have q330 : 0 < (l1.length : Int):=of_decide_eq_true (by first | (with_reducible assumption) | assumption)
                   obtain ⟨ad330,e330,hx330_0⟩:=Kd.at_int HR1.out 0 p330 q330
                   cases e330
                   have qi330 : (0 < l1.length) = True:=eq_true (by omega)
                   (try rw [show ((0 : Int)).toNat = 0 from rfl] at hx330_0)
                   (try rw [Addr.add_zero'] at hx330_0)
                   replace p330:=eq_true p330
                   replace q330:=eq_true q330
                   obtain ⟨i054,hi054,_,hsz54,_⟩:=info_parts info3
                   obtain ⟨A54,hcut54,hA54,hC54⟩:=print_drop_of (P:=Try.prog) (Value.int .i64) 0 22 3 .i64 Try.underlying22 hi054 hsz54 (some ad330) c1 l1 1 (by omega) (of_decide_eq_true (by first | (with_reducible assumption) | assumption)) HC1.out
                   have HR331:=Aside0.mk (Kd.C_of_reads (h1:=fun _ => rfl) (hA54 _ (Kd.zCl HR1.out)))
                   have HC331:=Aside0.mk hC54
                   clear hA54 hC54 hi054 hsz54
                   go_wp2_with fail
                   rw [show l1.length - 1 = (l1.drop 1).length by simp]
                   refine (zAH.calls kj19 _ _ (l1.drop 1) t332 _ (by repeat (first | exact HR331.out | (with_reducible refine Kd.C_alloc ?_ _) | (with_reducible refine Kd.C_drewN ?_ _) | (with_reducible refine Kd.C_drew ?_))) HC331.out A53.out).mono ?_
                   rintro e w' ⟨rfl,⟨nd,rfl⟩⟩
                   go_wp2_with fail
                   go_ret
                   exact ⟨by first | rfl | (simp; done) | (simp [*]; done),by repeat (first | exact Drawn0.refl _ | apply Drawn0.step)⟩
                  ·rw [if_neg c52] at H
                   exact absurd H (by simp)
                 ·rw [if_neg c51] at H
                  have c51b0 : ((rd l1 0) == 19) = false:=beq_eq_false_iff_ne.mpr c51
                  have c51b1 : ((rd l1 0) != 19) = true:=bne_iff_ne.mpr c51
                  obtain rfl:=Option.some.inj H
                  have p330 : 0 ≤ (0 : Int):=(by omega)
                  have q330 : 0 < (l1.length : Int):=of_decide_eq_true (by first | (with_reducible assumption) | assumption)
                  obtain ⟨ad330,e330,hx330_0⟩:=Kd.at_int HR1.out 0 p330 q330
                  cases e330
                  have qi330 : (0 < l1.length) = True:=eq_true (by omega)
                  (try rw [show ((0 : Int)).toNat = 0 from rfl] at hx330_0)
                  (try rw [Addr.add_zero'] at hx330_0)
                  replace p330:=eq_true p330
                  replace q330:=eq_true q330
                  go_wp2
                  go_ret
                  exact ⟨by first | rfl | (simp; done) | (simp [*]; done),by repeat (first | exact Drawn0.refl _ | apply Drawn0.step)⟩
                ·rw [if_neg c50] at H
                 exact absurd H (by simp)
               ·rw [if_neg c49] at H
                have c49b0 : decide (1 ≤ (l1.length : Int)) = false:=decide_eq_false c49
                have c49b1 : decide (1 ≤ l1.length) = false:=decide_eq_false (by omega)
                clear c49
                obtain rfl:=Option.some.inj H
                go_wp2
                go_ret
                exact ⟨by first | rfl | (simp; done) | (simp [*]; done),by repeat (first | exact Drawn0.refl _ | apply Drawn0.step)⟩
              ·rw [if_neg c48] at H
               have c48b0 : (a0 == 13) = false:=beq_eq_false_iff_ne.mpr c48
               have c48b1 : (a0 != 13) = true:=bne_iff_ne.mpr c48
               by_cases c55 : a0 = 14
               ·rw [if_pos c55] at H
                have c55b0 : (a0 == 14) = true:=beq_iff_eq.mpr c55
                have c55b1 : (a0 != 14) = false:=bne_eq_false_iff_eq.mpr c55
                clear c55
                by_cases c56 : (l1.length : Int) ≤ 1
                ·rw [if_pos c56] at H
                 have c56b0 : decide ((l1.length : Int) ≤ 1) = true:=decide_eq_true c56
                 have c56b1 : decide (l1.length ≤ 1) = true:=decide_eq_true (by omega)
                 clear c56
                 replace H:=Option.bind_eq_some_iff.mp H
                 obtain ⟨t333,A570,H⟩:=H
                 replace H : (some t333) = some r:=H
                 have A57:=Aside0.mk A570
                 clear A570
                 obtain rfl:=Option.some.inj H
                 go_wp2_with (first | (go_at_call 59; (with_reducible refine (zAH.calls kj19 _ _ l1 t333 _ ?side1 ?side2 A57.out).mono ?_); (case side1 => repeat (first | exact HR1.out | (with_reducible refine Kd.C_alloc ?_ _) | (with_reducible refine Kd.C_drewN ?_ _) | (with_reducible refine Kd.C_drew ?_))); (case side2 => exact HC1.out); rintro e w' ⟨rfl,⟨nd,rfl⟩⟩))
                 go_ret
                 exact ⟨by first | rfl | (simp; done) | (simp [*]; done),by repeat (first | exact Drawn0.refl _ | apply Drawn0.step)⟩
                ·rw [if_neg c56] at H
                 have c56b0 : decide ((l1.length : Int) ≤ 1) = false:=decide_eq_false c56
                 have c56b1 : decide (l1.length ≤ 1) = false:=decide_eq_false (by omega)
                 clear c56
                 obtain rfl:=Option.some.inj H
                 go_wp2
                 go_ret
                 exact ⟨by first | rfl | (simp; done) | (simp [*]; done),by repeat (first | exact Drawn0.refl _ | apply Drawn0.step)⟩
               ·rw [if_neg c55] at H
                have c55b0 : (a0 == 14) = false:=beq_eq_false_iff_ne.mpr c55
                have c55b1 : (a0 != 14) = true:=bne_iff_ne.mpr c55
                by_cases c58 : a0 = 16
                ·rw [if_pos c58] at H
                 have c58b0 : (a0 == 16) = true:=beq_iff_eq.mpr c58
                 have c58b1 : (a0 != 16) = false:=bne_eq_false_iff_eq.mpr c58
                 clear c58
                 by_cases c59 : (l1.length : Int) = 2
                 ·rw [if_pos c59] at H
                  have c59b0 : ((l1.length : Int) == 2) = true:=beq_iff_eq.mpr c59
                  have c59b1 : ((l1.length : Int) != 2) = false:=bne_eq_false_iff_eq.mpr c59
                  clear c59
                  by_cases c60 : 0 < (l1.length : Int)
                  ·rw [if_pos c60] at H
                   have c60b0 : decide (0 < (l1.length : Int)) = true:=decide_eq_true c60
                   have c60b1 : decide (0 < l1.length) = true:=decide_eq_true (by omega)
                   clear c60
                   by_cases c61 : (rd l1 0) = 6
                   ·rw [if_pos c61] at H
                    have c61b0 : ((rd l1 0) == 6) = true:=beq_iff_eq.mpr c61
                    have c61b1 : ((rd l1 0) != 6) = false:=bne_eq_false_iff_eq.mpr c61
                    clear c61
                    by_cases c62 : 1 < (l1.length : Int)
                    ·rw [if_pos c62] at H
                     have c62b0 : decide (1 < (l1.length : Int)) = true:=decide_eq_true c62
                     have c62b1 : decide (1 < l1.length) = true:=decide_eq_true (by omega)
                     clear c62
                     obtain rfl:=Option.some.inj H
                     have p334 : 0 ≤ (0 : Int):=(by omega)
                     have q334 : 0 < (l1.length : Int):=of_decide_eq_true (by first | (with_reducible assumption) | assumption)
                     obtain ⟨ad334,e334,hx334_0⟩:=Kd.at_int HR1.out 0 p334 q334
                     cases e334
                     have qi334 : (0 < l1.length) = True:=eq_true (by omega)
                     (try rw [show ((0 : Int)).toNat = 0 from rfl] at hx334_0)
                     (try rw [Addr.add_zero'] at hx334_0)
                     replace p334:=eq_true p334
                     replace q334:=eq_true q334
                     have p335 : 0 ≤ (1 : Int):=(by omega)
                     have q335 : 1 < (l1.length : Int):=of_decide_eq_true (by first | (with_reducible assumption) | assumption)
                     obtain ⟨ad335,e335,hx335_0⟩:=Kd.at_int HR1.out 1 p335 q335
                     obtain rfl : ad334 = ad335:=(by injection e335)
                     (try simp only [show (1 : Int).toNat = 1 from rfl,Nat.reduceMul,Nat.reduceEqDiff,Go.Addr.add,↓reduceIte] at hx335_0)
                     have qi335 : (1 < l1.length) = True:=eq_true (by omega)
                     (try rw [show ((1 : Int)).toNat = 1 from rfl] at hx335_0)
                     replace p335:=eq_true p335
                     replace q335:=eq_true q335
                     go_wp2
                     go_ret
                     exact ⟨by first | rfl | (simp; done) | (simp [*]; done),by repeat (first | exact Drawn0.refl _ | apply Drawn0.step)⟩
                    ·rw [if_neg c62] at H
                     exact absurd H (by simp)
                   ·rw [if_neg c61] at H
                    have c61b0 : ((rd l1 0) == 6) = false:=beq_eq_false_iff_ne.mpr c61
                    have c61b1 : ((rd l1 0) != 6) = true:=bne_iff_ne.mpr c61
                    obtain rfl:=Option.some.inj H
                    have p334 : 0 ≤ (0 : Int):=(by omega)
                    have q334 : 0 < (l1.length : Int):=of_decide_eq_true (by first | (with_reducible assumption) | assumption)
                    obtain ⟨ad334,e334,hx334_0⟩:=Kd.at_int HR1.out 0 p334 q334
                    cases e334
                    have qi334 : (0 < l1.length) = True:=eq_true (by omega)
                    (try rw [show ((0 : Int)).toNat = 0 from rfl] at hx334_0)
                    (try rw [Addr.add_zero'] at hx334_0)
                    replace p334:=eq_true p334
                    replace q334:=eq_true q334
                    go_wp2
                    go_ret
                    exact ⟨by first | rfl | (simp; done) | (simp [*]; done),by repeat (first | exact Drawn0.refl _ | apply Drawn0.step)⟩
                  ·rw [if_neg c60] at H
                   exact absurd H (by simp)
                 ·rw [if_neg c59] at H
                  have c59b0 : ((l1.length : Int) == 2) = false:=beq_eq_false_iff_ne.mpr c59
                  have c59b1 : ((l1.length : Int) != 2) = true:=bne_iff_ne.mpr c59
                  obtain rfl:=Option.some.inj H
                  go_wp2
                  go_ret
                  exact ⟨by first | rfl | (simp; done) | (simp [*]; done),by repeat (first | exact Drawn0.refl _ | apply Drawn0.step)⟩
                ·rw [if_neg c58] at H
                 have c58b0 : (a0 == 16) = false:=beq_eq_false_iff_ne.mpr c58
                 have c58b1 : (a0 != 16) = true:=bne_iff_ne.mpr c58
                 obtain rfl:=Option.some.inj H
                 go_wp2
                 go_ret
                 exact ⟨by first | rfl | (simp; done) | (simp [*]; done),by repeat (first | exact Drawn0.refl _ | apply Drawn0.step)⟩
end Go.Proofs.Ytpggidmpkhmijaa.P
