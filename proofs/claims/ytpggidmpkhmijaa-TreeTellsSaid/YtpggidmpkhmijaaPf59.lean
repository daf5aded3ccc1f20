import Derived.Test.YtpggidmpkhmijaaRose
set_option linter.unusedVariables false
set_option linter.unusedSimpArgs false
namespace Go.Proofs.Ytpggidmpkhmijaa.P
open Go.RowKit Go.Proofs.YtpggidmpkhmijaaW.PrintWords Go.Proofs.YtpggidmpkhmijaaW.PrintLast Go.Proofs.YtpggidmpkhmijaaW.PrintMore
attribute [local go_sem] zBa zAY max_two min_two zAR zAT zAZ zAX
def zAE.j0 : Nat → Int → Bool → Int → Int → Int → ByteArray → List Int → Option (Bool)
 | 0,_,_,_,_,_,_,_ => none
 | k + 1,x4,x5,x308000,x308001,x308002,x308003,x308004 => if x5 = true then (if x308001 ≥ 1 then (some (decide (x308001 ≤ 4))) else (some false)) else (if x4 = 3 then (if x308001 ≥ 0 then (some (decide (x308001 ≤ 4))) else (some false)) else (if x4 = 20 then (some (decide (x308001 ≥ 0))) else (if x4 = 21 then (if x308001 = 0 then (some true) else (some (x308001 == 1))) else (some (x308001 == 0)))))
def zAE.f (k : Nat) (a0_0 : Int) (a0_1 : Int) (a0_2 : Int) (a0_3 : ByteArray) (l0_4 : List Int) : Option (Bool):=if a0_0 = 2 then (zAE.j0 k a0_0 (a0_0 == 2) a0_0 a0_1 a0_2 a0_3 l0_4) else (if a0_0 = 4 then (zAE.j0 k a0_0 (a0_0 == 4) a0_0 a0_1 a0_2 a0_3 l0_4) else (zAE.j0 k a0_0 (a0_0 == 5) a0_0 a0_1 a0_2 a0_3 l0_4))
set_option maxHeartbeats 8000000 in
set_option maxRecDepth 100000 in
theorem zAE.calls (k : Nat) (a0_0 : Int) (a0_1 : Int) (a0_2 : Int) (a0_3 : ByteArray) (A0_4 : Option Addr) (c0_4 : Nat) (l0_4 : List Int) (r : Bool) (w : World) (hr0_4 : Kd.C (Kd.int .i64) w A0_4 l0_4.length l0_4) (hc0_4 : l0_4.length ≤ c0_4) (h : zAE.f k a0_0 a0_1 a0_2 a0_3 l0_4 = some r) :
  Calls Try.prog 48 #[.agg #[.int .i64 a0_0,.int .i64 a0_1,.int .i64 a0_2,.string a0_3,.slice A0_4 l0_4.length c0_4]] w fun e w' => e = .returned (.bool r) ∧ Below w.heap.size w w':=by
 have hu24:=Try.underlying24
 have HR0_4:=Aside0.mk hr0_4
 have HC0_4:=Aside0.mk hc0_4
 clear hr0_4 hc0_4
 have HB:=Aside0.mk (Below.refl w.heap.size w)
 have H : (if a0_0 = 2 then (zAE.j0 k a0_0 (a0_0 == 2) a0_0 a0_1 a0_2 a0_3 l0_4) else (if a0_0 = 4 then (zAE.j0 k a0_0 (a0_0 == 4) a0_0 a0_1 a0_2 a0_3 l0_4) else (zAE.j0 k a0_0 (a0_0 == 5) a0_0 a0_1 a0_2 a0_3 l0_4))) = some r:=h
 clear h
 have HC2:=Aside0.mk H
 clear H
 go_enter Try.func48,Try.ntmps48
 go_upto_if 5 with (first | ((with_reducible refine zAM (N:=1) rfl ?_); refine zAL ?hg (N:=1) ?hd (cs:=#[.int .i64 a0_0,.int .i64 a0_1,.int .i64 a0_2,.string a0_3,.slice A0_4 l0_4.length c0_4]) (t:=24) ?hr ?_; (case hd => rfl); (case hg => rfl); (case hr => first | (go_simp; done) | (go_simp; rfl)); intro gb307 hg w3 hbox hb; have n0_:=Aside0.mk (zAm (by repeat (first | (with_reducible first | exact HB.out | apply zAg | apply zAc | apply zAi) | exact HB.out)) hb); have n1_:=Aside0.mk (hbox); have n2_:=Aside0.mk ((by rw [hg]; exact (zAp (by repeat (first | (with_reducible first | exact HB.out | apply zAg | apply zAc | apply zAi) | exact HB.out))) : w.heap.size ≤ gb307)); have n3_:=Aside0.mk ((by rw [hg]; exact (zAp (by repeat (first | (with_reducible first | exact HB.out | apply zAg | apply zAc | apply zAi) | exact HB.out))) : w.heap.size ≤ gb307)); clear HB; have HB:=n0_; have BK307:=n1_; have GW307:=n2_; have GE307:=n3_; clear n0_ n1_ n2_ n3_; clear hb hbox hg; have hcz4_0 : w3.cell? ⟨gb307,0,none⟩ = some (.int .i64 a0_0):=(zAf BK307.out 0).trans rfl; have hcz4_1 : w3.cell? ⟨gb307,1,none⟩ = some (.int .i64 a0_1):=(zAf BK307.out 1).trans rfl; have hcz4_2 : w3.cell? ⟨gb307,2,none⟩ = some (.int .i64 a0_2):=(zAf BK307.out 2).trans rfl; have hcz4_3 : w3.cell? ⟨gb307,3,none⟩ = some (.string a0_3):=(zAf BK307.out 3).trans rfl; have hcz4_4 : w3.cell? ⟨gb307,4,none⟩ = some (.slice A0_4 l0_4.length c0_4):=(zAf BK307.out 4).trans rfl; have hfz4_0:=zAe BK307.out 0; have hfz4_1:=zAe BK307.out 1; have hfz4_2:=zAe BK307.out 2; have hfz4_3:=zAe BK307.out 3; have hfz4_4:=zAe BK307.out 4))
 (try simp only [Act.put,List.setIfInBounds_toArray,List.set_cons_zero,List.set_cons_succ])
 go_cut [5] (fun v5 wc => ∃ (kq : Nat) (x5_1 : Bool),v5 = .bool x5_1 ∧ Aside0 (zAE.j0 kq a0_0 x5_1 a0_0 a0_1 a0_2 a0_3 l0_4 = some r) ∧ Aside0 (kq ≤ k) ∧ Aside0 (wc.heap[gb307]? = some (.cells #[.int .i64 a0_0,.int .i64 a0_1,.int .i64 a0_2,.string a0_3,(.slice A0_4 l0_4.length c0_4)] 24 (0,0))) ∧ Aside0 (Below w.heap.size w wc))
 case first =>
  have H:=HC2.out
  clear HC2
  by_cases c5 : a0_0 = 2
  ·rw [if_pos c5] at H
   have c5b0 : (a0_0 == 2) = true:=beq_iff_eq.mpr c5
   have c5b1 : (a0_0 != 2) = false:=bne_eq_false_iff_eq.mpr c5
   clear c5
   (first | rw [c5b0] | (simp only [i64_w,i32_w]; rw [c5b0]) | skip)
   have H':=Aside0.mk H
   clear H
   go_wp2
   go_meet
   case rel => exact ⟨_,((a0_0 == 2)),(by first | rfl | (simp; done) | (simp [*]; done)),H',⟨by first | omega | exact Nat.le_refl _⟩,⟨by (with_reducible repeat (first | apply zAb | apply zAd | apply zAa)); exact BK307.out⟩,⟨by repeat (first | (with_reducible first | exact HB.out | apply zAg | apply zAc | apply zAi | refine zAh ?_ GE307.out) | exact HB.out)⟩⟩
  ·rw [if_neg c5] at H
   have c5b0 : (a0_0 == 2) = false:=beq_eq_false_iff_ne.mpr c5
   have c5b1 : (a0_0 != 2) = true:=bne_iff_ne.mpr c5
   (first | rw [c5b0] | (simp only [i64_w,i32_w]; rw [c5b0]) | skip)
   by_cases c6 : a0_0 = 4
   ·rw [if_pos c6] at H
    have c6b0 : (a0_0 == 4) = true:=beq_iff_eq.mpr c6
    have c6b1 : (a0_0 != 4) = false:=bne_eq_false_iff_eq.mpr c6
    clear c6
    have H':=Aside0.mk H
    clear H
    go_wp2
    go_meet
    case rel => exact ⟨_,((a0_0 == 4)),(by first | rfl | (simp; done) | (simp [*]; done)),H',⟨by first | omega | exact Nat.le_refl _⟩,⟨by (with_reducible repeat (first | apply zAb | apply zAd | apply zAa)); exact BK307.out⟩,⟨by repeat (first | (with_reducible first | exact HB.out | apply zAg | apply zAc | apply zAi | refine zAh ?_ GE307.out) | exact HB.out)⟩⟩
   ·rw [if_neg c6] at H
    have c6b0 : (a0_0 == 4) = false:=beq_eq_false_iff_ne.mpr c6
    have c6b1 : (a0_0 != 4) = true:=bne_iff_ne.mpr c6
    have H':=Aside0.mk H
    clear H
    go_wp2
    go_meet
    case rel => exact ⟨_,((a0_0 == 5)),(by first | rfl | (simp; done) | (simp [*]; done)),H',⟨by first | omega | exact Nat.le_refl _⟩,⟨by (with_reducible repeat (first | apply zAb | apply zAd | apply zAa)); exact BK307.out⟩,⟨by repeat (first | (with_reducible first | exact HB.out | apply zAg | apply zAc | apply zAi | refine zAh ?_ GE307.out) | exact HB.out)⟩⟩
 case rest =>
  clear HC2
  try clear p2
  try clear c4
  try clear c5
  try clear c5b0
  try clear c5b1
  try clear c6
  try clear c6b0
  try clear c6b1
  try clear hcz4_0
  try clear hcz4_1
  try clear hcz4_2
  try clear hcz4_3
  try clear hcz4_4
  try clear hfz4_0
  try clear hfz4_1
  try clear hfz4_2
  try clear hfz4_3
  try clear hfz4_4
  obtain ⟨kq,x5_1,rfl,HA,HJ1,BK307,HB⟩:=hcut
  cases kq with
  | zero => exact absurd HA.out (by simp [zAE.j0])
  | succ kj1 =>
   have H:=HA.out
   clear HA
   simp only [zAE.j0] at H
   by_cases c7 : x5_1 = true
   ·subst c7
    have H1 : (if a0_1 ≥ 1 then (some (decide (a0_1 ≤ 4))) else (some false)) = some r:=by rw [if_pos rfl] at H; exact H
    clear H
    have H:=H1
    clear H1
    by_cases c8 : a0_1 ≥ 1
    ·rw [if_pos c8] at H
     have c8b0 : decide (1 ≤ a0_1) = true:=decide_eq_true c8
     clear c8
     obtain rfl:=Option.some.inj H
     have hcz9_0 : wc.cell? ⟨gb307,0,none⟩ = some (.int .i64 a0_0):=(zAf BK307.out 0).trans rfl
     have hcz9_1 : wc.cell? ⟨gb307,1,none⟩ = some (.int .i64 a0_1):=(zAf BK307.out 1).trans rfl
     have hcz9_2 : wc.cell? ⟨gb307,2,none⟩ = some (.int .i64 a0_2):=(zAf BK307.out 2).trans rfl
     have hcz9_3 : wc.cell? ⟨gb307,3,none⟩ = some (.string a0_3):=(zAf BK307.out 3).trans rfl
     have hcz9_4 : wc.cell? ⟨gb307,4,none⟩ = some (.slice A0_4 l0_4.length c0_4):=(zAf BK307.out 4).trans rfl
     have hfz9_0:=zAe BK307.out 0
     have hfz9_1:=zAe BK307.out 1
     have hfz9_2:=zAe BK307.out 2
     have hfz9_3:=zAe BK307.out 3
     have hfz9_4:=zAe BK307.out 4
     go_wp2
     go_ret
     exact ⟨by first | rfl | (simp [zAo,zAn] <;> rfl) | (simp [*,zAo,zAn] <;> rfl),by repeat (first | (with_reducible first | exact HB.out | apply zAg | apply zAc | apply zAi | refine zAh ?_ GE307.out) | exact HB.out)⟩
    ·rw [if_neg c8] at H
     have c8b0 : decide (1 ≤ a0_1) = false:=decide_eq_false c8
     clear c8
     obtain rfl:=Option.some.inj H
     have hcz10_0 : wc.cell? ⟨gb307,0,none⟩ = some (.int .i64 a0_0):=(zAf BK307.out 0).trans rfl
     have hcz10_1 : wc.cell? ⟨gb307,1,none⟩ = some (.int .i64 a0_1):=(zAf BK307.out 1).trans rfl
     have hcz10_2 : wc.cell? ⟨gb307,2,none⟩ = some (.int .i64 a0_2):=(zAf BK307.out 2).trans rfl
     have hcz10_3 : wc.cell? ⟨gb307,3,none⟩ = some (.string a0_3):=(zAf BK307.out 3).trans rfl
     have hcz10_4 : wc.cell? ⟨gb307,4,none⟩ = some (.slice A0_4 l0_4.length c0_4):=(zAf BK307.out 4).trans rfl
     have hfz10_0:=zAe BK307.out 0
     have hfz10_1:=zAe BK307.out 1
     have hfz10_2:=zAe BK307.out 2
     have hfz10_3:=zAe BK307.out 3
     have hfz10_4:=zAe BK307.out 4
     go_wp2
     go_ret
     exact ⟨by first | rfl | (simp [zAo,zAn] <;> rfl) | (simp [*,zAo,zAn] <;> rfl),by repeat (first | (with_reducible first | exact HB.out | apply zAg | apply zAc | apply zAi | refine zAh ?_ GE307.out) | exact HB.out)⟩
   ·replace c7:=Bool.eq_false_iff.mpr c7
    subst c7
    have H1 : (if a0_0 = 3 then (if a0_1 ≥ 0 then (some (decide (a0_1 ≤ 4))) else (some false)) else (if a0_0 = 20 then (some (decide (a0_1 ≥ 0))) else (if a0_0 = 21 then (if a0_1 = 0 then (some true) else (some (a0_1 == 1))) else (some (a0_1 == 0))))) = some r:=by rw [if_neg (show ¬ (false = true) by decide)] at H; exact H
    clear H
    have H:=H1
    clear H1
    by_cases c11 : a0_0 = 3
    ·rw [if_pos c11] at H
     have c11b0 : (a0_0 == 3) = true:=beq_iff_eq.mpr c11
     have c11b1 : (a0_0 != 3) = false:=bne_eq_false_iff_eq.mpr c11
     clear c11
     by_cases c12 : a0_1 ≥ 0
     ·rw [if_pos c12] at H
      have c12b0 : decide (0 ≤ a0_1) = true:=decide_eq_true c12
      clear c12
      obtain rfl:=Option.some.inj H
      have hcz13_0 : wc.cell? ⟨gb307,0,none⟩ = some (.int .i64 a0_0):=(zAf BK307.out 0).trans rfl
      have hcz13_1 : wc.cell? ⟨gb307,1,none⟩ = some (.int .i64 a0_1):=(zAf BK307.out 1).trans rfl
      have hcz13_2 : wc.cell? ⟨gb307,2,none⟩ = some (.int .i64 a0_2):=(zAf BK307.out 2).trans rfl
      have hcz13_3 : wc.cell? ⟨gb307,3,none⟩ = some (.string a0_3):=(zAf BK307.out 3).trans rfl
      have hcz13_4 : wc.cell? ⟨gb307,4,none⟩ = some (.slice A0_4 l0_4.length c0_4):=(zAf BK307.out 4).trans rfl
      have hfz13_0:=zAe BK307.out 0
      have hfz13_1:=zAe BK307.out 1
      have hfz13_2:=zAe BK307.out 2
      have hfz13_3:=zAe BK307.out 3
      have hfz13_4:=zAe BK307.out 4
      go_wp2
      go_ret
      exact ⟨by first | rfl | (simp [zAo,zAn] <;> rfl) | (simp [*,zAo,zAn] <;> rfl),by repeat (first | (with_reducible first | exact HB.out | apply zAg | apply zAc | apply zAi | refine zAh ?_ GE307.out) | exact HB.out)⟩
     ·rw [if_neg c12] at H
      have c12b0 : decide (0 ≤ a0_1) = false:=decide_eq_false c12
      clear c12
      obtain rfl:=Option.some.inj H
      have hcz14_0 : wc.cell? ⟨gb307,0,none⟩ = some (.int .i64 a0_0):=(zAf BK307.out 0).trans rfl
      have hcz14_1 : wc.cell? ⟨gb307,1,none⟩ = some (.int .i64 a0_1):=(zAf BK307.out 1).trans rfl
      have hcz14_2 : wc.cell? ⟨gb307,2,none⟩ = some (.int .i64 a0_2):=(zAf BK307.out 2).trans rfl
      have hcz14_3 : wc.cell? ⟨gb307,3,none⟩ = some (.string a0_3):=(zAf BK307.out 3).trans rfl
      have hcz14_4 : wc.cell? ⟨gb307,4,none⟩ = some (.slice A0_4 l0_4.length c0_4):=(zAf BK307.out 4).trans rfl
      have hfz14_0:=zAe BK307.out 0
      have hfz14_1:=zAe BK307.out 1
      have hfz14_2:=zAe BK307.out 2
      have hfz14_3:=zAe BK307.out 3
      have hfz14_4:=zAe BK307.out 4
      go_wp2
      go_ret
      exact ⟨by first | rfl | (simp [zAo,zAn] <;> rfl) | (simp [*,zAo,zAn] <;> rfl),by repeat (first | (with_reducible first | exact HB.out | apply zAg | apply zAc | apply zAi | refine zAh ?_ GE307.out) | exact HB.out)⟩
    ·rw [if_neg c11] at H
     have c11b0 : (a0_0 == 3) = false:=beq_eq_false_iff_ne.mpr c11
     have c11b1 : (a0_0 != 3) = true:=bne_iff_ne.mpr c11
     by_cases c15 : a0_0 = 20
     ·rw [if_pos c15] at H
      have c15b0 : (a0_0 == 20) = true:=beq_iff_eq.mpr c15
      have c15b1 : (a0_0 != 20) = false:=bne_eq_false_iff_eq.mpr c15
      clear c15
      obtain rfl:=Option.some.inj H
      have hcz16_0 : wc.cell? ⟨gb307,0,none⟩ = some (.int .i64 a0_0):=(zAf BK307.out 0).trans rfl
      have hcz16_1 : wc.cell? ⟨gb307,1,none⟩ = some (.int .i64 a0_1):=(zAf BK307.out 1).trans rfl
      have hcz16_2 : wc.cell? ⟨gb307,2,none⟩ = some (.int .i64 a0_2):=(zAf BK307.out 2).trans rfl
      have hcz16_3 : wc.cell? ⟨gb307,3,none⟩ = some (.string a0_3):=(zAf BK307.out 3).trans rfl
      have hcz16_4 : wc.cell? ⟨gb307,4,none⟩ = some (.slice A0_4 l0_4.length c0_4):=(zAf BK307.out 4).trans rfl
      have hfz16_0:=zAe BK307.out 0
      have hfz16_1:=zAe BK307.out 1
      have hfz16_2:=zAe BK307.out 2
      have hfz16_3:=zAe BK307.out 3
      have hfz16_4:=zAe BK307.out 4
      go_wp2
      go_ret
      exact ⟨by first | rfl | (simp [zAo,zAn] <;> rfl) | (simp [*,zAo,zAn] <;> rfl),by repeat (first | (with_reducible first | exact HB.out | apply zAg | apply zAc | apply zAi | refine zAh ?_ GE307.out) | exact HB.out)⟩
     ·rw [if_neg c15] at H
      have c15b0 : (a0_0 == 20) = false:=beq_eq_false_iff_ne.mpr c15
      have c15b1 : (a0_0 != 20) = true:=bne_iff_ne.mpr c15
      by_cases c17 : a0_0 = 21
      ·rw [if_pos c17] at H
       have c17b0 : (a0_0 == 21) = true:=beq_iff_eq.mpr c17
       have c17b1 : (a0_0 != 21) = false:=bne_eq_false_iff_eq.mpr c17
       clear c17
       by_cases c18 : a0_1 = 0
       ·rw [if_pos c18] at H
        have c18b0 : (a0_1 == 0) = true:=beq_iff_eq.mpr c18
        have c18b1 : (a0_1 != 0) = false:=bne_eq_false_iff_eq.mpr c18
        clear c18
        obtain rfl:=Option.some.inj H
        have hcz19_0 : wc.cell? ⟨gb307,0,none⟩ = some (.int .i64 a0_0):=(zAf BK307.out 0).trans rfl
        have hcz19_1 : wc.cell? ⟨gb307,1,none⟩ = some (.int .i64 a0_1):=(zAf BK307.out 1).trans rfl
        have hcz19_2 : wc.cell? ⟨gb307,2,none⟩ = some (.int .i64 a0_2):=(zAf BK307.out 2).trans rfl
        have hcz19_3 : wc.cell? ⟨gb307,3,none⟩ = some (.string a0_3):=(zAf BK307.out 3).trans rfl
        have hcz19_4 : wc.cell? ⟨gb307,4,none⟩ = some (.slice A0_4 l0_4.length c0_4):=(zAf BK307.out 4).trans rfl
        have hfz19_0:=zAe BK307.out 0
        have hfz19_1:=zAe BK307.out 1
        have hfz19_2:=zAe BK307.out 2
        have hfz19_3:=zAe BK307.out 3
        have hfz19_4:=zAe BK307.out 4
        go_wp2
        go_ret
        exact ⟨by first | rfl | (simp [zAo,zAn] <;> rfl) | (simp [*,zAo,zAn] <;> rfl),by repeat (first | (with_reducible first | exact HB.out | apply zAg | apply zAc | apply zAi | refine zAh ?_ GE307.out) | exact HB.out)⟩
       ·rw [if_neg c18] at H
        have c18b0 : (a0_1 == 0) = false:=beq_eq_false_iff_ne.mpr c18
        have c18b1 : (a0_1 != 0) = true:=bne_iff_ne.mpr c18
        obtain rfl:=Option.some.inj H
        have hcz20_0 : wc.cell? ⟨gb307,0,none⟩ = some (.int .i64 a0_0):=(zAf BK307.out 0).trans rfl
        have hcz20_1 : wc.cell? ⟨gb307,1,none⟩ = some (.int .i64 a0_1):=(zAf BK307.out 1).trans rfl
        have hcz20_2 : wc.cell? ⟨gb307,2,none⟩ = some (.int .i64 a0_2):=(zAf BK307.out 2).trans rfl
        have hcz20_3 : wc.cell? ⟨gb307,3,none⟩ = some (.string a0_3):=(zAf BK307.out 3).trans rfl
        have hcz20_4 : wc.cell? ⟨gb307,4,none⟩ = some (.slice A0_4 l0_4.length c0_4):=(zAf BK307.out 4).trans rfl
        have hfz20_0:=zAe BK307.out 0
        have hfz20_1:=zAe BK307.out 1
        have hfz20_2:=zAe BK307.out 2
        have hfz20_3:=zAe BK307.out 3
        have hfz20_4:=zAe BK307.out 4
        go_wp2
        go_ret
        exact ⟨by first | rfl | (simp [zAo,zAn] <;> rfl) | (simp [*,zAo,zAn] <;> rfl),by repeat (first | (with_reducible first | exact HB.out | apply zAg | apply zAc | apply zAi | refine zAh ?_ GE307.out) | exact HB.out)⟩
      ·rw [if_neg c17] at H
       have c17b0 : (a0_0 == 21) = false:=beq_eq_false_iff_ne.mpr c17
       have c17b1 : (a0_0 != 21) = true:=bne_iff_ne.mpr c17
       obtain rfl:=Option.some.inj H
       have hcz21_0 : wc.cell? ⟨gb307,0,none⟩ = some (.int .i64 a0_0):=(zAf BK307.out 0).trans rfl
       have hcz21_1 : wc.cell? ⟨gb307,1,none⟩ = some (.int .i64 a0_1):=(zAf BK307.out 1).trans rfl
       have hcz21_2 : wc.cell? ⟨gb307,2,none⟩ = some (.int .i64 a0_2):=(zAf BK307.out 2).trans rfl
       have hcz21_3 : wc.cell? ⟨gb307,3,none⟩ = some (.string a0_3):=(zAf BK307.out 3).trans rfl
       have hcz21_4 : wc.cell? ⟨gb307,4,none⟩ = some (.slice A0_4 l0_4.length c0_4):=(zAf BK307.out 4).trans rfl
       have hfz21_0:=zAe BK307.out 0
       have hfz21_1:=zAe BK307.out 1
       have hfz21_2:=zAe BK307.out 2
       have hfz21_3:=zAe BK307.out 3
       have hfz21_4:=zAe BK307.out 4
       go_wp2
       go_ret
       exact ⟨by first | rfl | (simp [zAo,zAn] <;> rfl) | (simp [*,zAo,zAn] <;> rfl),by repeat (first | (with_reducible first | exact HB.out | apply zAg | apply zAc | apply zAi | refine zAh ?_ GE307.out) | exact HB.out)⟩
mutual
def zAz.j1 : Nat → List Int → Int → Int → Int → Option (Bool)
 | 0,_,_,_,_ => none
 | k + 1,x0,x2,x3,x9 => zAz.l1 k x0 x2 x3 x9
def zAz.l1 : Nat → List Int → Int → Int → Int → Option (Bool)
 | 0,_,_,_,_ => none
 | k + 1,x0,x2,x3,x9 => if x9 < (x0.length : Int) then (if 0 ≤ x9 then (if (rd x0 x9) = x2 then (zAz.l1 k x0 x2 x3 (wrap64 (x9 + 1))) else (if x3 = 0 then (some (x9 == (x0.length : Int))) else (if x9 = (wrap64 ((x0.length : Int) - 1)) then (some ((rd x0 x9) == x3)) else (some false)))) else (none)) else (if x3 = 0 then (some (x9 == (x0.length : Int))) else (if x9 = (wrap64 ((x0.length : Int) - 1)) then (if 0 ≤ x9 then (none) else (none)) else (some false)))
def zAz.l0 : Nat → List Int → Int → Int → Int → Int → Option (Bool)
 | 0,_,_,_,_,_ => none
 | k + 1,x0,x1,x2,x3,x9 => if x9 < (x0.length : Int) then (if 0 ≤ x9 then (if (rd x0 x9) = x1 then (zAz.l0 k x0 x1 x2 x3 (wrap64 (x9 + 1))) else (zAz.j1 k x0 x2 x3 x9)) else (none)) else (zAz.j1 k x0 x2 x3 x9)
end
def zAz.f (k : Nat) (l0 : List Int) (a1 : Int) (a2 : Int) (a3 : Int) : Option (Bool):=zAz.l0 k l0 a1 a2 a3 0
set_option maxHeartbeats 8000000 in
set_option maxRecDepth 100000 in
theorem zAz.calls (k : Nat) (A0 : Option Addr) (c0 : Nat) (l0 : List Int) (a1 : Int) (a2 : Int) (a3 : Int) (r : Bool) (w : World) (hr0 : Kd.C (Kd.int .i64) w A0 l0.length l0) (hc0 : l0.length ≤ c0) (h : zAz.f k l0 a1 a2 a3 = some r) :
  Calls Try.prog 57 #[.slice A0 l0.length c0,.int .i64 a1,.int .i64 a2,.int .i64 a3] w fun e w' => e = .returned (.bool r) ∧ Drawn0 w w':=by
 have HR0:=Aside0.mk hr0
 have HC0:=Aside0.mk hc0
 clear hr0 hc0
 have H : (zAz.l0 k l0 a1 a2 a3 0) = some r:=h
 clear h
 have HC5:=Aside0.mk H
 clear H
 go_enter Try.func57,Try.ntmps57
 go_upto_block 0 with (fail)
 go_cut [9] (fun v9 wc => ∃ (kq : Nat) (x9_4 : Int),v9 = .int .i64 x9_4 ∧ Aside0 (zAz.j1 kq l0 a2 a3 x9_4 = some r) ∧ Aside0 (kq ≤ k) ∧ Drawn0 w wc)
 case first =>
  have H:=HC5.out
  clear HC5
  have H':=Aside0.mk H
  clear H
  go_wp2
  go_loopg [9] k (fun kq v9 w' => ∃ (x9_1 : Int),v9 = .int .i64 x9_1 ∧ Aside0 (zAz.l0 kq l0 a1 a2 a3 x9_1 = some r) ∧ Aside0 (kq ≤ k) ∧ Drawn0 w w')
  case atStart => exact ⟨(0),(by first | rfl | (simp; done) | (simp [*]; done)),H',⟨Nat.le_refl _⟩,by repeat (first | exact Drawn0.refl _ | apply Drawn0.step)⟩
  case round =>
   clear H'
   try clear p2
   try clear c5
   obtain ⟨x9_1,rfl,HA,HK1,⟨m1,rfl⟩⟩:=hrel
   cases gk with
   | zero => exact absurd HA.out (by simp [zAz.l0])
   | succ k1 =>
    have H:=HA.out
    clear HA
    simp only [zAz.l0] at H
    by_cases c6 : x9_1 < (l0.length : Int)
    ·rw [if_pos c6] at H
     have c6b0 : decide (x9_1 < (l0.length : Int)) = true:=decide_eq_true c6
     clear c6
     (first | rw [c6b0] | (simp only [i64_w,i32_w]; rw [c6b0]) | skip)
     by_cases c7 : 0 ≤ x9_1
     ·rw [if_pos c7] at H
      have c7b0 : decide (0 ≤ x9_1) = true:=decide_eq_true c7
      clear c7
      by_cases c8 : (rd l0 x9_1) = a1
      ·rw [if_pos c8] at H
       have c8b0 : ((rd l0 x9_1) == a1) = true:=beq_iff_eq.mpr c8
       have c8b1 : ((rd l0 x9_1) != a1) = false:=bne_eq_false_iff_eq.mpr c8
       clear c8
       have H':=Aside0.mk H
       clear H
       have p308 : 0 ≤ (x9_1 : Int):=of_decide_eq_true (by first | (with_reducible assumption) | assumption)
       have q308 : x9_1 < (l0.length : Int):=of_decide_eq_true (by first | (with_reducible assumption) | assumption)
       obtain ⟨ad308,e308,hx308_0⟩:=Kd.at_int HR0.out x9_1 p308 q308
       cases e308
       replace p308:=eq_true p308
       replace q308:=eq_true q308
       go_wp2
       go_roundg k1
       case measure => have:=HK1.out; omega
       case rel => exact ⟨(wrap64 (x9_1 + 1)),(by first | rfl | (simp; done) | (simp [*]; done)),H',⟨by have:=HK1.out; omega⟩,by repeat (first | exact Drawn0.refl _ | apply Drawn0.step)⟩
      ·rw [if_neg c8] at H
       have c8b0 : ((rd l0 x9_1) == a1) = false:=beq_eq_false_iff_ne.mpr c8
       have c8b1 : ((rd l0 x9_1) != a1) = true:=bne_iff_ne.mpr c8
       have H':=Aside0.mk H
       clear H
       have p308 : 0 ≤ (x9_1 : Int):=of_decide_eq_true (by first | (with_reducible assumption) | assumption)
       have q308 : x9_1 < (l0.length : Int):=of_decide_eq_true (by first | (with_reducible assumption) | assumption)
       obtain ⟨ad308,e308,hx308_0⟩:=Kd.at_int HR0.out x9_1 p308 q308
       cases e308
       replace p308:=eq_true p308
       replace q308:=eq_true q308
       go_wp2
       go_meet
       case rel => exact ⟨_,(x9_1),(by first | rfl | (simp; done) | (simp [*]; done)),H',⟨by have:=HK1.out; first | omega | exact Nat.le_refl _⟩,by repeat (first | exact Drawn0.refl _ | apply Drawn0.step)⟩
     ·rw [if_neg c7] at H
      exact absurd H (by simp)
    ·rw [if_neg c6] at H
     have c6b0 : decide (x9_1 < (l0.length : Int)) = false:=decide_eq_false c6
     clear c6
     (first | rw [c6b0] | (simp only [i64_w,i32_w]; rw [c6b0]) | skip)
     have H':=Aside0.mk H
     clear H
     go_wp2
     go_meet
     case rel => exact ⟨_,(x9_1),(by first | rfl | (simp; done) | (simp [*]; done)),H',⟨by have:=HK1.out; first | omega | exact Nat.le_refl _⟩,by repeat (first | exact Drawn0.refl _ | apply Drawn0.step)⟩
 case rest =>
  clear HC5
  try clear p2
  try clear p3
  try clear q3
  try clear hx3
  try clear c5
  try clear c6
  try clear c6b0
  try clear p6
  try clear c7
  try clear c7b0
  try clear c8
  try clear c8b0
  try clear c8b1
  try clear hx308_0
  try clear p2
  try clear p308
  try clear q308
  obtain ⟨kq,x9_4,rfl,HA,HJ4,⟨mc4,rfl⟩⟩:=hcut
  cases kq with
  | zero => exact absurd HA.out (by simp [zAz.j1])
  | succ kj4 =>
   have H:=HA.out
   clear HA
   simp only [zAz.j1] at H
   have H':=Aside0.mk H
   clear H
   go_wp2
   go_loopg [9] kj4 (fun kq v9 w' => ∃ (x9_2 : Int),v9 = .int .i64 x9_2 ∧ Aside0 (zAz.l1 kq l0 a2 a3 x9_2 = some r) ∧ Aside0 (kq ≤ kj4) ∧ Drawn0 w w')
   case atStart => exact ⟨(x9_4),(by first | rfl | (simp; done) | (simp [*]; done)),H',⟨Nat.le_refl _⟩,by repeat (first | exact Drawn0.refl _ | apply Drawn0.step)⟩
   case round =>
    clear H'
    try clear p2
    try clear p3
    try clear q3
    try clear hx3
    try clear c4
    try clear c5
    try clear c6
    try clear c6b0
    try clear p6
    try clear c7
    try clear c7b0
    try clear c8
    try clear c8b0
    try clear c8b1
    try clear hx308_0
    try clear p2
    try clear p3
    try clear p308
    try clear p6
    try clear q3
    try clear q308
    obtain ⟨x9_2,rfl,HA,HK2,⟨m2,rfl⟩⟩:=hrel
    cases gk with
    | zero => exact absurd HA.out (by simp [zAz.l1])
    | succ k2 =>
     have H:=HA.out
     clear HA
     simp only [zAz.l1] at H
     by_cases c9 : x9_2 < (l0.length : Int)
     ·rw [if_pos c9] at H
      have c9b0 : decide (x9_2 < (l0.length : Int)) = true:=decide_eq_true c9
      clear c9
      by_cases c10 : 0 ≤ x9_2
      ·rw [if_pos c10] at H
       have c10b0 : decide (0 ≤ x9_2) = true:=decide_eq_true c10
       clear c10
       by_cases c11 : (rd l0 x9_2) = a2
       ·rw [if_pos c11] at H
        have c11b0 : ((rd l0 x9_2) == a2) = true:=beq_iff_eq.mpr c11
        have c11b1 : ((rd l0 x9_2) != a2) = false:=bne_eq_false_iff_eq.mpr c11
        clear c11
        have H':=Aside0.mk H
        clear H
        have p309 : 0 ≤ (x9_2 : Int):=of_decide_eq_true (by first | (with_reducible assumption) | assumption)
        have q309 : x9_2 < (l0.length : Int):=of_decide_eq_true (by first | (with_reducible assumption) | assumption)
        obtain ⟨ad309,e309,hx309_0⟩:=Kd.at_int HR0.out x9_2 p309 q309
        cases e309
        replace p309:=eq_true p309
        replace q309:=eq_true q309
        go_wp2
        go_roundg k2
        case measure => have:=HJ4.out; have:=HK2.out; omega
        case rel => exact ⟨(wrap64 (x9_2 + 1)),(by first | rfl | (simp; done) | (simp [*]; done)),H',⟨by have:=HJ4.out; have:=HK2.out; omega⟩,by repeat (first | exact Drawn0.refl _ | apply Drawn0.step)⟩
       ·rw [if_neg c11] at H
        have c11b0 : ((rd l0 x9_2) == a2) = false:=beq_eq_false_iff_ne.mpr c11
        have c11b1 : ((rd l0 x9_2) != a2) = true:=bne_iff_ne.mpr c11
        by_cases c12 : a3 = 0
        ·rw [if_pos c12] at H
         have c12b0 : (a3 == 0) = true:=beq_iff_eq.mpr c12
         have c12b1 : (a3 != 0) = false:=bne_eq_false_iff_eq.mpr c12
         clear c12
         obtain rfl:=Option.some.inj H
         have p309 : 0 ≤ (x9_2 : Int):=of_decide_eq_true (by first | (with_reducible assumption) | assumption)
         have q309 : x9_2 < (l0.length : Int):=of_decide_eq_true (by first | (with_reducible assumption) | assumption)
         obtain ⟨ad309,e309,hx309_0⟩:=Kd.at_int HR0.out x9_2 p309 q309
         cases e309
         replace p309:=eq_true p309
         replace q309:=eq_true q309
         go_wp2
         go_ret
         exact ⟨by first | rfl | (simp; done) | (simp [*]; done),by repeat (first | exact Drawn0.refl _ | apply Drawn0.step)⟩
        ·rw [if_neg c12] at H
         have c12b0 : (a3 == 0) = false:=beq_eq_false_iff_ne.mpr c12
         have c12b1 : (a3 != 0) = true:=bne_iff_ne.mpr c12
         by_cases c13 : x9_2 = (wrap64 ((l0.length : Int) - 1))
         ·rw [if_pos c13] at H
          have c13b0 : (x9_2 == (wrap64 ((l0.length : Int) - 1))) = true:=beq_iff_eq.mpr c13
          have c13b1 : (x9_2 != (wrap64 ((l0.length : Int) - 1))) = false:=bne_eq_false_iff_eq.mpr c13
          clear c13
          obtain rfl:=Option.some.inj H
          have p309 : 0 ≤ (x9_2 : Int):=of_decide_eq_true (by first | (with_reducible assumption) | assumption)
          have q309 : x9_2 < (l0.length : Int):=of_decide_eq_true (by first | (with_reducible assumption) | assumption)
          obtain ⟨ad309,e309,hx309_0⟩:=Kd.at_int HR0.out x9_2 p309 q309
          cases e309
          replace p309:=eq_true p309
          replace q309:=eq_true q309
          have p310 : 0 ≤ (x9_2 : Int):=of_decide_eq_true (by first | (with_reducible assumption) | assumption)
          have q310 : x9_2 < (l0.length : Int):=of_decide_eq_true (by first | (with_reducible assumption) | assumption)
          obtain ⟨ad310,e310,hx310_0⟩:=Kd.at_int HR0.out x9_2 p310 q310
          obtain rfl : ad309 = ad310:=(by injection e310)
          replace p310:=eq_true p310
          replace q310:=eq_true q310
          go_wp2
          go_ret
          exact ⟨by first | rfl | (simp; done) | (simp [*]; done),by repeat (first | exact Drawn0.refl _ | apply Drawn0.step)⟩
         ·rw [if_neg c13] at H
          have c13b0 : (x9_2 == (wrap64 ((l0.length : Int) - 1))) = false:=beq_eq_false_iff_ne.mpr c13
          have c13b1 : (x9_2 != (wrap64 ((l0.length : Int) - 1))) = true:=bne_iff_ne.mpr c13
          obtain rfl:=Option.some.inj H
          have p309 : 0 ≤ (x9_2 : Int):=of_decide_eq_true (by first | (with_reducible assumption) | assumption)
          have q309 : x9_2 < (l0.length : Int):=of_decide_eq_true (by first | (with_reducible assumption) | assumption)
          obtain ⟨ad309,e309,hx309_0⟩:=Kd.at_int HR0.out x9_2 p309 q309
          cases e309
          replace p309:=eq_true p309
          replace q309:=eq_true q309
          go_wp2
          go_ret
          exact ⟨by first | rfl | (simp; done) | (simp [*]; done),by repeat (first | exact Drawn0.refl _ | apply Drawn0.step)⟩
      ·rw [if_neg c10] at H
       exact absurd H (by simp)
     ·rw [if_neg c9] at H
      have c9b0 : decide (x9_2 < (l0.length : Int)) = false:=decide_eq_false c9
      clear c9
      by_cases c14 : a3 = 0
      ·rw [if_pos c14] at H
       have c14b0 : (a3 == 0) = true:=beq_iff_eq.mpr c14
       have c14b1 : (a3 != 0) = false:=bne_eq_false_iff_eq.mpr c14
       clear c14
       obtain rfl:=Option.some.inj H
       go_wp2
       go_ret
       exact ⟨by first | rfl | (simp; done) | (simp [*]; done),by repeat (first | exact Drawn0.refl _ | apply Drawn0.step)⟩
      ·rw [if_neg c14] at H
       have c14b0 : (a3 == 0) = false:=beq_eq_false_iff_ne.mpr c14
       have c14b1 : (a3 != 0) = true:=bne_iff_ne.mpr c14
       by_cases c15 : x9_2 = (wrap64 ((l0.length : Int) - 1))
       ·rw [if_pos c15] at H
        have c15b0 : (x9_2 == (wrap64 ((l0.length : Int) - 1))) = true:=beq_iff_eq.mpr c15
        have c15b1 : (x9_2 != (wrap64 ((l0.length : Int) - 1))) = false:=bne_eq_false_iff_eq.mpr c15
        clear c15
        by_cases c16 : 0 ≤ x9_2
        ·rw [if_pos c16] at H
         exact absurd H (by simp)
        ·rw [if_neg c16] at H
         exact absurd H (by simp)
       ·rw [if_neg c15] at H
        have c15b0 : (x9_2 == (wrap64 ((l0.length : Int) - 1))) = false:=beq_eq_false_iff_ne.mpr c15
        have c15b1 : (x9_2 != (wrap64 ((l0.length : Int) - 1))) = true:=bne_iff_ne.mpr c15
        obtain rfl:=Option.some.inj H
        go_wp2
        go_ret
        exact ⟨by first | rfl | (simp; done) | (simp [*]; done),by repeat (first | exact Drawn0.refl _ | apply Drawn0.step)⟩
def zBe.f (a0 : Int) : Option (Bool):=if a0 ≥ 7 then (some (decide (a0 ≤ 17))) else (some false)
set_option maxHeartbeats 8000000 in
set_option maxRecDepth 100000 in
theorem zBe.calls (a0 : Int) (r : Bool) (w : World) (h : zBe.f a0 = some r) :
  Calls Try.prog 58 #[.int .i64 a0] w fun e w' => e = .returned (.bool r) ∧ Drawn0 w w':=by
 have H : (if a0 ≥ 7 then (some (decide (a0 ≤ 17))) else (some false)) = some r:=h
 clear h
 by_cases c2 : a0 ≥ 7
 ·rw [if_pos c2] at H
  have c2b0 : decide (7 ≤ a0) = true:=decide_eq_true c2
  clear c2
  obtain rfl:=Option.some.inj H
  go_enter Try.func58,Try.ntmps58
  go_wp2
  go_ret
  exact ⟨by first | rfl | (simp; done) | (simp [*]; done),by repeat (first | exact Drawn0.refl _ | apply Drawn0.step)⟩
 ·rw [if_neg c2] at H
  have c2b0 : decide (7 ≤ a0) = false:=decide_eq_false c2
  clear c2
  obtain rfl:=Option.some.inj H
  go_enter Try.func58,Try.ntmps58
  go_wp2
  go_ret
  exact ⟨by first | rfl | (simp; done) | (simp [*]; done),by repeat (first | exact Drawn0.refl _ | apply Drawn0.step)⟩
def zAG.f (a0 : Int) : Option (Bool):=if a0 ≥ 20 then (some (decide (a0 ≤ 27))) else (some false)
set_option maxHeartbeats 8000000 in
set_option maxRecDepth 100000 in
theorem zAG.calls (a0 : Int) (r : Bool) (w : World) (h : zAG.f a0 = some r) :
  Calls Try.prog 60 #[.int .i64 a0] w fun e w' => e = .returned (.bool r) ∧ Drawn0 w w':=by
 have H : (if a0 ≥ 20 then (some (decide (a0 ≤ 27))) else (some false)) = some r:=h
 clear h
 by_cases c2 : a0 ≥ 20
 ·rw [if_pos c2] at H
  have c2b0 : decide (20 ≤ a0) = true:=decide_eq_true c2
  clear c2
  obtain rfl:=Option.some.inj H
  go_enter Try.func60,Try.ntmps60
  go_wp2
  go_ret
  exact ⟨by first | rfl | (simp; done) | (simp [*]; done),by repeat (first | exact Drawn0.refl _ | apply Drawn0.step)⟩
 ·rw [if_neg c2] at H
  have c2b0 : decide (20 ≤ a0) = false:=decide_eq_false c2
  clear c2
  obtain rfl:=Option.some.inj H
  go_enter Try.func60,Try.ntmps60
  go_wp2
  go_ret
  exact ⟨by first | rfl | (simp; done) | (simp [*]; done),by repeat (first | exact Drawn0.refl _ | apply Drawn0.step)⟩
def zAH.l0 : Nat → List Int → Int → Option (Bool)
 | 0,_,_ => none
 | k + 1,x0,x3 => if x3 < (x0.length : Int) then (if 0 ≤ x3 then ((zAG.f (rd x0 x3)).bind fun t312 => (if t312 = true then (zAH.l0 k x0 (wrap64 (x3 + 1))) else (some false))) else (none)) else (some true)
def zAH.f (k : Nat) (l0 : List Int) : Option (Bool):=zAH.l0 k l0 0
set_option maxHeartbeats 8000000 in
set_option maxRecDepth 100000 in
theorem zAH.calls (k : Nat) (A0 : Option Addr) (c0 : Nat) (l0 : List Int) (r : Bool) (w : World) (hr0 : Kd.C (Kd.int .i64) w A0 l0.length l0) (hc0 : l0.length ≤ c0) (h : zAH.f k l0 = some r) :
  Calls Try.prog 59 #[.slice A0 l0.length c0] w fun e w' => e = .returned (.bool r) ∧ Drawn0 w w':=by
 have HR0:=Aside0.mk hr0
 have HC0:=Aside0.mk hc0
 clear hr0 hc0
 have H : (zAH.l0 k l0 0) = some r:=h
 clear h
 have H':=Aside0.mk H
 clear H
 go_enter Try.func59,Try.ntmps59
 go_wp2
 go_loopg [3] k (fun kq v3 w' => ∃ (x3_1 : Int),v3 = .int .i64 x3_1 ∧ Aside0 (zAH.l0 kq l0 x3_1 = some r) ∧ Aside0 (kq ≤ k) ∧ Drawn0 w w')
 case atStart => exact ⟨(0),(by first | rfl | (simp; done) | (simp [*]; done)),H',⟨Nat.le_refl _⟩,by repeat (first | exact Drawn0.refl _ | apply Drawn0.step)⟩
 case round =>
  clear H'
  obtain ⟨x3_1,rfl,HA,HK1,⟨m1,rfl⟩⟩:=hrel
  cases gk with
  | zero => exact absurd HA.out (by simp [zAH.l0])
  | succ k1 =>
   have H:=HA.out
   clear HA
   simp only [zAH.l0] at H
   by_cases c2 : x3_1 < (l0.length : Int)
   ·rw [if_pos c2] at H
    have c2b0 : decide (x3_1 < (l0.length : Int)) = true:=decide_eq_true c2
    clear c2
    by_cases c3 : 0 ≤ x3_1
    ·rw [if_pos c3] at H
     have c3b0 : decide (0 ≤ x3_1) = true:=decide_eq_true c3
     clear c3
     replace H:=Option.bind_eq_some_iff.mp H
     obtain ⟨t312,A40,H⟩:=H
     replace H : (if t312 = true then (zAH.l0 k1 l0 (wrap64 (x3_1 + 1))) else (some false)) = some r:=H
     have A4:=Aside0.mk A40
     clear A40
     by_cases c5 : t312 = true
     ·subst c5
      have H1 : (zAH.l0 k1 l0 (wrap64 (x3_1 + 1))) = some r:=by rw [if_pos rfl] at H; exact H
      clear H
      have H:=H1
      clear H1
      have H':=Aside0.mk H
      clear H
      have p311 : 0 ≤ (x3_1 : Int):=of_decide_eq_true (by first | (with_reducible assumption) | assumption)
      have q311 : x3_1 < (l0.length : Int):=of_decide_eq_true (by first | (with_reducible assumption) | assumption)
      obtain ⟨ad311,e311,hx311_0⟩:=Kd.at_int HR0.out x3_1 p311 q311
      cases e311
      replace p311:=eq_true p311
      replace q311:=eq_true q311
      go_wp2_with (first | ((with_reducible refine zAA (f:=60) rfl ?_); refine goesL_ (some 14) rfl rfl Try.func60 (by kernel_rfl) rfl #[.int .i64 (rd l0 x3_1)] rfl (by (try simp only [List.map_toArray,List.map_cons,List.map_nil]); first | done | rfl | (simp only [List.length_drop,List.length_take]; rfl)) ?_; (with_reducible refine (zAG.calls (rd l0 x3_1) true _ A4.out).mono ?_); rintro e w' ⟨rfl,⟨nd,rfl⟩⟩; refine ⟨_,rfl,?_⟩))
      go_roundg k1
      case measure => have:=HK1.out; omega
      case rel => exact ⟨(wrap64 (x3_1 + 1)),(by first | rfl | (simp; done) | (simp [*]; done)),H',⟨by have:=HK1.out; omega⟩,by repeat (first | exact Drawn0.refl _ | apply Drawn0.step)⟩
     ·replace c5:=Bool.eq_false_iff.mpr c5
      subst c5
      have H1 : (some false) = some r:=by rw [if_neg (show ¬ (false = true) by decide)] at H; exact H
      clear H
      have H:=H1
      clear H1
      obtain rfl:=Option.some.inj H
      have p311 : 0 ≤ (x3_1 : Int):=of_decide_eq_true (by first | (with_reducible assumption) | assumption)
      have q311 : x3_1 < (l0.length : Int):=of_decide_eq_true (by first | (with_reducible assumption) | assumption)
      obtain ⟨ad311,e311,hx311_0⟩:=Kd.at_int HR0.out x3_1 p311 q311
      cases e311
      replace p311:=eq_true p311
      replace q311:=eq_true q311
      go_wp2_with (first | ((with_reducible refine zAA (f:=60) rfl ?_); refine goesL_ (some 14) rfl rfl Try.func60 (by kernel_rfl) rfl #[.int .i64 (rd l0 x3_1)] rfl (by (try simp only [List.map_toArray,List.map_cons,List.map_nil]); first | done | rfl | (simp only [List.length_drop,List.length_take]; rfl)) ?_; (with_reducible refine (zAG.calls (rd l0 x3_1) false _ A4.out).mono ?_); rintro e w' ⟨rfl,⟨nd,rfl⟩⟩; refine ⟨_,rfl,?_⟩))
      go_ret
      exact ⟨by first | rfl | (simp; done) | (simp [*]; done),by repeat (first | exact Drawn0.refl _ | apply Drawn0.step)⟩
    ·rw [if_neg c3] at H
     exact absurd H (by simp)
   ·rw [if_neg c2] at H
    have c2b0 : decide (x3_1 < (l0.length : Int)) = false:=decide_eq_false c2
    clear c2
    obtain rfl:=Option.some.inj H
    go_wp2
    go_ret
    exact ⟨by first | rfl | (simp; done) | (simp [*]; done),by repeat (first | exact Drawn0.refl _ | apply Drawn0.step)⟩
end Go.Proofs.Ytpggidmpkhmijaa.P
