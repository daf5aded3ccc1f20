import Derived.Test.YtpggidmpkhmijaaRose
set_option linter.unusedVariables false
set_option linter.unusedSimpArgs false
namespace Go.Proofs.Ytpggidmpkhmijaa.P
open Go.RowKit Go.Proofs.YtpggidmpkhmijaaW.PrintWords Go.Proofs.YtpggidmpkhmijaaW.PrintLast Go.Proofs.YtpggidmpkhmijaaW.PrintMore
attribute [local go_sem] zBa zAY max_two min_two zAR zAT zAZ zAX
mutual
def zAt.l0 : Nat → List (S24) → Int → List Int → Int → Option (Int)
 | 0,_,_,_,_ => none
 | k + 1,x0,x5,x6,x7 => if x7 ≥ 0 then (if 0 ≤ x7 then (if x7 < (x6.length : Int) then (if (rd x6 x7) = (wrap64 (x5 - 1)) then (zAt.j1 k x0 x6 x7 (decide ((rd x6 x7) < 0))) else (zAt.j1 k x0 x6 x7 true)) else (none)) else (none)) else (some x5)
def zAt.j1 : Nat → List (S24) → List Int → Int → Bool → Option (Int)
 | 0,_,_,_,_ => none
 | k + 1,x0,x6,x7,x34 => if x34 = true then (some (-1)) else (if 0 ≤ x7 then (if x7 < (x6.length : Int) then ((zAt.f k x0 (rd x6 x7)).bind fun t271 => (if t271 < 0 then (some (-1)) else (zAt.l0 k x0 t271 x6 (wrap64 (x7 - 1))))) else (none)) else (none))
def zAt.f : Nat → List (S24) → Int → Option (Int)
 | 0,_,_ => none
 | k + 1,l0,a1 => if 0 ≤ a1 then (if a1 < (l0.length : Int) then (zAt.l0 k l0 a1 ((rd_T24 l0 a1).f4) (wrap64 ((((rd_T24 l0 a1).f4).length : Int) - 1))) else (none)) else (none)
end
set_option maxHeartbeats 8000000 in
set_option maxRecDepth 100000 in
theorem zAt.calls (k : Nat) : ∀ (A0 : Option Addr) (c0 : Nat) (l0 : List (S24)) (a1 : Int) (r : Int) (w : World) (hr0 : Kd.C k24 w A0 l0.length l0) (hc0 : l0.length ≤ c0) (h : zAt.f k l0 a1 = some r),
  Calls Try.prog 34 #[.slice A0 l0.length c0,.int .i64 a1] w fun e w' => e = .returned (.int .i64 r) ∧ Drawn0 w w':=by
 induction k using Nat.strongRecOn with
 | _ k ih =>
 intro A0 c0 l0 a1 r w hr0 hc0 h
 cases k with
 | zero => exact absurd h (by simp [zAt.f])
 | succ k =>
 simp only [zAt.f] at h
 have HR0:=Aside0.mk hr0
 have HC0:=Aside0.mk hc0
 clear hr0 hc0
 have H : (if 0 ≤ a1 then (if a1 < (l0.length : Int) then (zAt.l0 k l0 a1 ((rd_T24 l0 a1).f4) (wrap64 ((((rd_T24 l0 a1).f4).length : Int) - 1))) else (none)) else (none)) = some r:=h
 clear h
 by_cases c3 : 0 ≤ a1
 ·rw [if_pos c3] at H
  have c3b0 : decide (0 ≤ a1) = true:=decide_eq_true c3
  clear c3
  by_cases c4 : a1 < (l0.length : Int)
  ·rw [if_pos c4] at H
   have c4b0 : decide (a1 < (l0.length : Int)) = true:=decide_eq_true c4
   clear c4
   have H':=Aside0.mk H
   clear H
   have p267 : 0 ≤ (a1 : Int):=of_decide_eq_true (by first | (with_reducible assumption) | assumption)
   have q267 : a1 < (l0.length : Int):=of_decide_eq_true (by first | (with_reducible assumption) | assumption)
   obtain ⟨ad267,A267_4,c267_4,e267,hx267_0,hx267_1,hx267_2,hx267_3,hx267_4,hl267_4,hi267_4⟩:=at_T24 HR0.out a1 p267 q267
   cases e267
   have HR267_4:=Aside0.mk hi267_4
   have HC267_4:=Aside0.mk hl267_4
   clear hi267_4 hl267_4
   replace p267:=eq_true p267
   replace q267:=eq_true q267
   go_enter Try.func34,Try.ntmps34
   go_wp2
   go_loopg [5,7] k (fun kq v5 v7 w' => ∃ (x5_1 : Int) (x7_1 : Int),v5 = .int .i64 x5_1 ∧ v7 = .int .i64 x7_1 ∧ Aside0 (zAt.l0 kq l0 x5_1 ((rd_T24 l0 a1).f4) x7_1 = some r) ∧ Aside0 (kq ≤ k) ∧ Drawn0 w w')
   case atStart => exact ⟨(a1),(wrap64 ((((rd_T24 l0 a1).f4).length : Int) - 1)),(by first | rfl | (simp; done) | (simp [*]; done)),(by first | rfl | (simp; done) | (simp [*]; done)),H',⟨Nat.le_refl _⟩,by repeat (first | exact Drawn0.refl _ | apply Drawn0.step)⟩
   case round =>
    clear H'
    try clear c2
    try clear p2
    try clear q2
    try clear hx2
    try clear c3
    try clear c3b0
    try clear c4
    try clear c4b0
    try clear hx267_0
    try clear hx267_1
    try clear hx267_2
    try clear hx267_3
    try clear hx267_4
    try clear p267
    try clear q267
    obtain ⟨x5_1,x7_1,rfl,rfl,HA,HK1,⟨m1,rfl⟩⟩:=hrel
    cases gk with
    | zero => exact absurd HA.out (by simp [zAt.l0])
    | succ k1 =>
     have H:=HA.out
     clear HA
     simp only [zAt.l0] at H
     by_cases c5 : x7_1 ≥ 0
     ·rw [if_pos c5] at H
      have c5b0 : decide (0 ≤ x7_1) = true:=decide_eq_true c5
      clear c5
      have HC6:=Aside0.mk H
      clear H
      go_upto_region 6 with (fail)
      go_cut [34] (fun v34 wc => ∃ (kq : Nat) (x34_5 : Bool),v34 = .bool x34_5 ∧ Aside0 (zAt.j1 kq l0 ((rd_T24 l0 a1).f4) x7_1 x34_5 = some r) ∧ Aside0 (kq ≤ k1) ∧ Drawn0 w wc)
      case first =>
       have H:=HC6.out
       clear HC6
       by_cases c7 : 0 ≤ x7_1
       ·rw [if_pos c7] at H
        have c7b0 : decide (0 ≤ x7_1) = true:=decide_eq_true c7
        clear c7
        (first | rw [c7b0] | (simp only [i64_w,i32_w]; rw [c7b0]) | skip)
        by_cases c8 : x7_1 < (((rd_T24 l0 a1).f4).length : Int)
        ·rw [if_pos c8] at H
         have c8b0 : decide (x7_1 < (((rd_T24 l0 a1).f4).length : Int)) = true:=decide_eq_true c8
         clear c8
         by_cases c9 : (rd ((rd_T24 l0 a1).f4) x7_1) = (wrap64 (x5_1 - 1))
         ·rw [if_pos c9] at H
          have c9b0 : ((rd ((rd_T24 l0 a1).f4) x7_1) == (wrap64 (x5_1 - 1))) = true:=beq_iff_eq.mpr c9
          have c9b1 : ((rd ((rd_T24 l0 a1).f4) x7_1) != (wrap64 (x5_1 - 1))) = false:=bne_eq_false_iff_eq.mpr c9
          clear c9
          have H':=Aside0.mk H
          clear H
          have p268 : 0 ≤ (x7_1 : Int):=of_decide_eq_true (by first | (with_reducible assumption) | assumption)
          have q268 : x7_1 < (((rd_T24 l0 a1).f4).length : Int):=of_decide_eq_true (by first | (with_reducible assumption) | assumption)
          obtain ⟨ad268,e268,hx268_0⟩:=Kd.at_int HR267_4.out x7_1 p268 q268
          cases e268
          replace p268:=eq_true p268
          replace q268:=eq_true q268
          have p269 : 0 ≤ (x7_1 : Int):=of_decide_eq_true (by first | (with_reducible assumption) | assumption)
          have q269 : x7_1 < (((rd_T24 l0 a1).f4).length : Int):=of_decide_eq_true (by first | (with_reducible assumption) | assumption)
          obtain ⟨ad269,e269,hx269_0⟩:=Kd.at_int HR267_4.out x7_1 p269 q269
          obtain rfl : ad268 = ad269:=(by injection e269)
          replace p269:=eq_true p269
          replace q269:=eq_true q269
          go_wp2
          go_meet
          case rel => exact ⟨_,(decide ((rd ((rd_T24 l0 a1).f4) x7_1) < 0)),(by first | rfl | (simp; done) | (simp [*]; done)),H',⟨by have:=HK1.out; first | omega | exact Nat.le_refl _⟩,by repeat (first | exact Drawn0.refl _ | apply Drawn0.step)⟩
         ·rw [if_neg c9] at H
          have c9b0 : ((rd ((rd_T24 l0 a1).f4) x7_1) == (wrap64 (x5_1 - 1))) = false:=beq_eq_false_iff_ne.mpr c9
          have c9b1 : ((rd ((rd_T24 l0 a1).f4) x7_1) != (wrap64 (x5_1 - 1))) = true:=bne_iff_ne.mpr c9
          have H':=Aside0.mk H
          clear H
          have p268 : 0 ≤ (x7_1 : Int):=of_decide_eq_true (by first | (with_reducible assumption) | assumption)
          have q268 : x7_1 < (((rd_T24 l0 a1).f4).length : Int):=of_decide_eq_true (by first | (with_reducible assumption) | assumption)
          obtain ⟨ad268,e268,hx268_0⟩:=Kd.at_int HR267_4.out x7_1 p268 q268
          cases e268
          replace p268:=eq_true p268
          replace q268:=eq_true q268
          go_wp2
          go_meet
          case rel => exact ⟨_,(true),(by first | rfl | (simp; done) | (simp [*]; done)),H',⟨by have:=HK1.out; first | omega | exact Nat.le_refl _⟩,by repeat (first | exact Drawn0.refl _ | apply Drawn0.step)⟩
        ·rw [if_neg c8] at H
         exact absurd H (by simp)
       ·rw [if_neg c7] at H
        exact absurd H (by simp)
      case rest =>
       clear HC6
       try clear c2
       try clear p2
       try clear q2
       try clear hx2
       try clear c3
       try clear c3b0
       try clear c4
       try clear c4b0
       try clear c5
       try clear c5b0
       try clear p6
       try clear c7
       try clear c7b0
       try clear c8
       try clear c8b0
       try clear c9
       try clear c9b0
       try clear c9b1
       try clear hx267_0
       try clear hx267_1
       try clear hx267_2
       try clear hx267_3
       try clear hx267_4
       try clear hx268_0
       try clear hx269_0
       try clear p2
       try clear p267
       try clear p268
       try clear p269
       try clear q2
       try clear q267
       try clear q268
       try clear q269
       obtain ⟨kq,x34_5,rfl,HA,HJ5,⟨mc5,rfl⟩⟩:=hcut
       cases kq with
       | zero => exact absurd HA.out (by simp [zAt.j1])
       | succ kj5 =>
        have H:=HA.out
        clear HA
        simp only [zAt.j1] at H
        by_cases c10 : x34_5 = true
        ·subst c10
         have H1 : (some (-1)) = some r:=by rw [if_pos rfl] at H; exact H
         clear H
         have H:=H1
         clear H1
         obtain rfl:=Option.some.inj H
         go_wp2
         go_ret
         exact ⟨by first | rfl | (simp; done) | (simp [*]; done),by repeat (first | exact Drawn0.refl _ | apply Drawn0.step)⟩
        ·replace c10:=Bool.eq_false_iff.mpr c10
         subst c10
         have H1 : (if 0 ≤ x7_1 then (if x7_1 < (((rd_T24 l0 a1).f4).length : Int) then ((zAt.f kj5 l0 (rd ((rd_T24 l0 a1).f4) x7_1)).bind fun t271 => (if t271 < 0 then (some (-1)) else (zAt.l0 kj5 l0 t271 ((rd_T24 l0 a1).f4) (wrap64 (x7_1 - 1))))) else (none)) else (none)) = some r:=by rw [if_neg (show ¬ (false = true) by decide)] at H; exact H
         clear H
         have H:=H1
         clear H1
         by_cases c11 : 0 ≤ x7_1
         ·rw [if_pos c11] at H
          have c11b0 : decide (0 ≤ x7_1) = true:=decide_eq_true c11
          clear c11
          by_cases c12 : x7_1 < (((rd_T24 l0 a1).f4).length : Int)
          ·rw [if_pos c12] at H
           have c12b0 : decide (x7_1 < (((rd_T24 l0 a1).f4).length : Int)) = true:=decide_eq_true c12
           clear c12
           replace H:=Option.bind_eq_some_iff.mp H
           obtain ⟨t271,A130,H⟩:=H
           replace H : (if t271 < 0 then (some (-1)) else (zAt.l0 kj5 l0 t271 ((rd_T24 l0 a1).f4) (wrap64 (x7_1 - 1)))) = some r:=H
           have A13:=Aside0.mk A130
           clear A130
           by_cases c14 : t271 < 0
           ·rw [if_pos c14] at H
            have c14b0 : decide (t271 < 0) = true:=decide_eq_true c14
            clear c14
            obtain rfl:=Option.some.inj H
            have p270 : 0 ≤ (x7_1 : Int):=of_decide_eq_true (by first | (with_reducible assumption) | assumption)
            have q270 : x7_1 < (((rd_T24 l0 a1).f4).length : Int):=of_decide_eq_true (by first | (with_reducible assumption) | assumption)
            obtain ⟨ad270,e270,hx270_0⟩:=Kd.at_int HR267_4.out x7_1 p270 q270
            cases e270
            replace p270:=eq_true p270
            replace q270:=eq_true q270
            go_wp2_with (first | ((with_reducible refine zAA (f:=34) rfl ?_); refine goesL_ (some 40) rfl rfl Try.func34 (by kernel_rfl) rfl #[.slice (some ad267) l0.length c0,.int .i64 (rd ((rd_T24 l0 a1).f4) x7_1)] rfl (by (try simp only [List.map_toArray,List.map_cons,List.map_nil]); first | done | rfl | (simp only [List.length_drop,List.length_take]; rfl)) ?_; (with_reducible refine (ih kj5 (by have:=HK1.out; have:=HJ5.out; omega) _ _ l0 (rd ((rd_T24 l0 a1).f4) x7_1) t271 _ ?side1 ?side2 A13.out).mono ?_); (case side1 => repeat (first | exact HR0.out | (with_reducible refine Kd.C_alloc ?_ _) | (with_reducible refine Kd.C_drewN ?_ _) | (with_reducible refine Kd.C_drew ?_))); (case side2 => exact HC0.out); rintro e w' ⟨rfl,⟨nd,rfl⟩⟩; refine ⟨_,rfl,?_⟩))
            go_ret
            exact ⟨by first | rfl | (simp; done) | (simp [*]; done),by repeat (first | exact Drawn0.refl _ | apply Drawn0.step)⟩
           ·rw [if_neg c14] at H
            have c14b0 : decide (t271 < 0) = false:=decide_eq_false c14
            clear c14
            have H':=Aside0.mk H
            clear H
            have p270 : 0 ≤ (x7_1 : Int):=of_decide_eq_true (by first | (with_reducible assumption) | assumption)
            have q270 : x7_1 < (((rd_T24 l0 a1).f4).length : Int):=of_decide_eq_true (by first | (with_reducible assumption) | assumption)
            obtain ⟨ad270,e270,hx270_0⟩:=Kd.at_int HR267_4.out x7_1 p270 q270
            cases e270
            replace p270:=eq_true p270
            replace q270:=eq_true q270
            go_wp2_with (first | ((with_reducible refine zAA (f:=34) rfl ?_); refine goesL_ (some 40) rfl rfl Try.func34 (by kernel_rfl) rfl #[.slice (some ad267) l0.length c0,.int .i64 (rd ((rd_T24 l0 a1).f4) x7_1)] rfl (by (try simp only [List.map_toArray,List.map_cons,List.map_nil]); first | done | rfl | (simp only [List.length_drop,List.length_take]; rfl)) ?_; (with_reducible refine (ih kj5 (by have:=HK1.out; have:=HJ5.out; omega) _ _ l0 (rd ((rd_T24 l0 a1).f4) x7_1) t271 _ ?side1 ?side2 A13.out).mono ?_); (case side1 => repeat (first | exact HR0.out | (with_reducible refine Kd.C_alloc ?_ _) | (with_reducible refine Kd.C_drewN ?_ _) | (with_reducible refine Kd.C_drew ?_))); (case side2 => exact HC0.out); rintro e w' ⟨rfl,⟨nd,rfl⟩⟩; refine ⟨_,rfl,?_⟩))
            go_roundg kj5
            case measure => have:=HK1.out; have:=HJ5.out; omega
            case rel => exact ⟨(t271),(wrap64 (x7_1 - 1)),(by first | rfl | (simp; done) | (simp [*]; done)),(by first | rfl | (simp; done) | (simp [*]; done)),H',⟨by have:=HK1.out; have:=HJ5.out; omega⟩,by repeat (first | exact Drawn0.refl _ | apply Drawn0.step)⟩
          ·rw [if_neg c12] at H
           exact absurd H (by simp)
         ·rw [if_neg c11] at H
          exact absurd H (by simp)
     ·rw [if_neg c5] at H
      have c5b0 : decide (0 ≤ x7_1) = false:=decide_eq_false c5
      clear c5
      obtain rfl:=Option.some.inj H
      go_wp2
      go_ret
      exact ⟨by first | rfl | (simp; done) | (simp [*]; done),by repeat (first | exact Drawn0.refl _ | apply Drawn0.step)⟩
  ·rw [if_neg c4] at H
   exact absurd H (by simp)
 ·rw [if_neg c3] at H
  exact absurd H (by simp)
mutual
def zAq.j0 : Nat → Int → Bool → List (S24) → Int → Option (Bool)
 | 0,_,_,_,_ => none
 | k + 1,x3,x21,x273000,x273001 => if x21 = true then (some false) else (zAq.l0 k x3 0 x273000 x273001)
def zAq.l0 : Nat → Int → Int → List (S24) → Int → Option (Bool)
 | 0,_,_,_,_ => none
 | k + 1,x3,x4,x273000,x273001 => if x4 < x3 then (zAq.l1 k x3 x4 0 x273000 x273001) else ((zAt.f k x273000 (wrap64 (x3 - 1))).bind fun t273 => (some (t273 == 0)))
def zAq.l1 : Nat → Int → Int → Int → List (S24) → Int → Option (Bool)
 | 0,_,_,_,_,_ => none
 | k + 1,x3,x4,x5,x273000,x273001 => if 0 ≤ x4 then (if x4 < (x273000.length : Int) then (if x5 < (((rd_T24 x273000 x4).f4).length : Int) then (if 0 ≤ x5 then (if (rd ((rd_T24 x273000 x4).f4) x5) < 0 then (some false) else (if (rd ((rd_T24 x273000 x4).f4) x5) ≥ x4 then (some false) else (zAq.l1 k x3 x4 (wrap64 (x5 + 1)) x273000 x273001))) else (none)) else (zAq.l0 k x3 (wrap64 (x4 + 1)) x273000 x273001)) else (none)) else (none)
end
def zAq.f (k : Nat) (l0_0 : List (S24)) (a0_1 : Int) : Option (Bool):=if (l0_0.length : Int) < 1 then (zAq.j0 k (l0_0.length : Int) true l0_0 a0_1) else (if (l0_0.length : Int) > 4000 then (zAq.j0 k (l0_0.length : Int) true l0_0 a0_1) else (zAq.j0 k (l0_0.length : Int) (a0_1 != (wrap64 ((l0_0.length : Int) - 1))) l0_0 a0_1))
set_option maxHeartbeats 8000000 in
set_option maxRecDepth 100000 in
theorem zAq.calls (k : Nat) (A0_0 : Option Addr) (c0_0 : Nat) (l0_0 : List (S24)) (a0_1 : Int) (r : Bool) (w : World) (hr0_0 : Kd.C k24 w A0_0 l0_0.length l0_0) (hc0_0 : l0_0.length ≤ c0_0) (h : zAq.f k l0_0 a0_1 = some r) :
  Calls Try.prog 20 #[.agg #[.slice A0_0 l0_0.length c0_0,.int .i64 a0_1]] w fun e w' => e = .returned (.bool r) ∧ Below w.heap.size w w':=by
 have hu30:=Try.underlying30
 have HR0_0:=Aside0.mk hr0_0
 have HC0_0:=Aside0.mk hc0_0
 clear hr0_0 hc0_0
 have HB:=Aside0.mk (Below.refl w.heap.size w)
 have H : (if (l0_0.length : Int) < 1 then (zAq.j0 k (l0_0.length : Int) true l0_0 a0_1) else (if (l0_0.length : Int) > 4000 then (zAq.j0 k (l0_0.length : Int) true l0_0 a0_1) else (zAq.j0 k (l0_0.length : Int) (a0_1 != (wrap64 ((l0_0.length : Int) - 1))) l0_0 a0_1))) = some r:=h
 clear h
 have HC2:=Aside0.mk H
 clear H
 go_enter Try.func20,Try.ntmps20
 go_upto_region 2 with (first | ((with_reducible refine zAM (N:=1) rfl ?_); refine zAL ?hg (N:=1) ?hd (cs:=#[.slice A0_0 l0_0.length c0_0,.int .i64 a0_1]) (t:=30) ?hr ?_; (case hd => rfl); (case hg => rfl); (case hr => first | (go_simp; done) | (go_simp; rfl)); intro gb272 hg w3 hbox hb; have n0_:=Aside0.mk (zAm (by repeat (first | (with_reducible first | exact HB.out | apply zAg | apply zAc | apply zAi) | exact HB.out)) hb); have n1_:=Aside0.mk (hbox); have n2_:=Aside0.mk ((by rw [hg]; exact (zAp (by repeat (first | (with_reducible first | exact HB.out | apply zAg | apply zAc | apply zAi) | exact HB.out))) : w.heap.size ≤ gb272)); have n3_:=Aside0.mk ((by rw [hg]; exact (zAp (by repeat (first | (with_reducible first | exact HB.out | apply zAg | apply zAc | apply zAi) | exact HB.out))) : w.heap.size ≤ gb272)); clear HB; have HB:=n0_; have BK272:=n1_; have GW272:=n2_; have GE272:=n3_; clear n0_ n1_ n2_ n3_; clear hb hbox hg; have hcz4_0 : w3.cell? ⟨gb272,0,none⟩ = some (.slice A0_0 l0_0.length c0_0):=(zAf BK272.out 0).trans rfl; have hcz4_1 : w3.cell? ⟨gb272,1,none⟩ = some (.int .i64 a0_1):=(zAf BK272.out 1).trans rfl; have hfz4_0:=zAe BK272.out 0; have hfz4_1:=zAe BK272.out 1))
 (try simp only [Act.put,List.setIfInBounds_toArray,List.set_cons_zero,List.set_cons_succ])
 go_cut [21] (fun v21 wc => ∃ (kq : Nat) (x21_1 : Bool),v21 = .bool x21_1 ∧ Aside0 (zAq.j0 kq (l0_0.length : Int) x21_1 l0_0 a0_1 = some r) ∧ Aside0 (kq ≤ k) ∧ Aside0 (wc.heap[gb272]? = some (.cells #[(.slice A0_0 l0_0.length c0_0),.int .i64 a0_1] 30 (0,0))) ∧ Aside0 (Below w.heap.size w wc))
 case first =>
  have H:=HC2.out
  clear HC2
  by_cases c5 : (l0_0.length : Int) < 1
  ·rw [if_pos c5] at H
   have c5b0 : decide ((l0_0.length : Int) < 1) = true:=decide_eq_true c5
   have c5b1 : decide (l0_0.length < 1) = true:=decide_eq_true (by omega)
   clear c5
   (first | rw [c5b0] | (simp only [i64_w,i32_w]; rw [c5b0]) | skip)
   have H':=Aside0.mk H
   clear H
   go_wp2
   go_meet
   case rel => exact ⟨_,(true),(by first | rfl | (simp; done) | (simp [*]; done)),H',⟨by first | omega | exact Nat.le_refl _⟩,⟨by (with_reducible repeat (first | apply zAb | apply zAd | apply zAa)); exact BK272.out⟩,⟨by repeat (first | (with_reducible first | exact HB.out | apply zAg | apply zAc | apply zAi | refine zAh ?_ GE272.out) | exact HB.out)⟩⟩
  ·rw [if_neg c5] at H
   have c5b0 : decide ((l0_0.length : Int) < 1) = false:=decide_eq_false c5
   have c5b1 : decide (l0_0.length < 1) = false:=decide_eq_false (by omega)
   clear c5
   (first | rw [c5b0] | (simp only [i64_w,i32_w]; rw [c5b0]) | skip)
   by_cases c6 : (l0_0.length : Int) > 4000
   ·rw [if_pos c6] at H
    have c6b0 : decide (4000 < (l0_0.length : Int)) = true:=decide_eq_true c6
    have c6b1 : decide (4000 < l0_0.length) = true:=decide_eq_true (by omega)
    clear c6
    have H':=Aside0.mk H
    clear H
    go_wp2
    go_meet
    case rel => exact ⟨_,(true),(by first | rfl | (simp; done) | (simp [*]; done)),H',⟨by first | omega | exact Nat.le_refl _⟩,⟨by (with_reducible repeat (first | apply zAb | apply zAd | apply zAa)); exact BK272.out⟩,⟨by repeat (first | (with_reducible first | exact HB.out | apply zAg | apply zAc | apply zAi | refine zAh ?_ GE272.out) | exact HB.out)⟩⟩
   ·rw [if_neg c6] at H
    have c6b0 : decide (4000 < (l0_0.length : Int)) = false:=decide_eq_false c6
    have c6b1 : decide (4000 < l0_0.length) = false:=decide_eq_false (by omega)
    clear c6
    have H':=Aside0.mk H
    clear H
    have hcz7_0 : w3.cell? ⟨gb272,0,none⟩ = some (.slice A0_0 l0_0.length c0_0):=(zAf BK272.out 0).trans rfl
    have hcz7_1 : w3.cell? ⟨gb272,1,none⟩ = some (.int .i64 a0_1):=(zAf BK272.out 1).trans rfl
    have hfz7_0:=zAe BK272.out 0
    have hfz7_1:=zAe BK272.out 1
    go_wp2
    go_meet
    case rel => exact ⟨_,((a0_1 != (wrap64 ((l0_0.length : Int) - 1)))),(by first | rfl | (simp; done) | (simp [*]; done)),H',⟨by first | omega | exact Nat.le_refl _⟩,⟨by (with_reducible repeat (first | apply zAb | apply zAd | apply zAa)); exact BK272.out⟩,⟨by repeat (first | (with_reducible first | exact HB.out | apply zAg | apply zAc | apply zAi | refine zAh ?_ GE272.out) | exact HB.out)⟩⟩
 case rest =>
  clear HC2
  try clear c2
  try clear p2
  try clear c5
  try clear c5b0
  try clear c5b1
  try clear c6
  try clear c6b0
  try clear c6b1
  try clear p6
  try clear hcz4_0
  try clear hcz4_1
  try clear hcz7_0
  try clear hcz7_1
  try clear hfz4_0
  try clear hfz4_1
  try clear hfz7_0
  try clear hfz7_1
  obtain ⟨kq,x21_1,rfl,HA,HJ1,BK272,HB⟩:=hcut
  cases kq with
  | zero => exact absurd HA.out (by simp [zAq.j0])
  | succ kj1 =>
   have H:=HA.out
   clear HA
   simp only [zAq.j0] at H
   by_cases c8 : x21_1 = true
   ·subst c8
    have H1 : (some false) = some r:=by rw [if_pos rfl] at H; exact H
    clear H
    have H:=H1
    clear H1
    obtain rfl:=Option.some.inj H
    go_wp2
    go_ret
    exact ⟨by first | rfl | (simp [zAo,zAn] <;> rfl) | (simp [*,zAo,zAn] <;> rfl),by repeat (first | (with_reducible first | exact HB.out | apply zAg | apply zAc | apply zAi | refine zAh ?_ GE272.out) | exact HB.out)⟩
   ·replace c8:=Bool.eq_false_iff.mpr c8
    subst c8
    have H1 : (zAq.l0 kj1 (l0_0.length : Int) 0 l0_0 a0_1) = some r:=by rw [if_neg (show ¬ (false = true) by decide)] at H; exact H
    clear H
    have H:=H1
    clear H1
    have H':=Aside0.mk H
    clear H
    go_wp2
    go_loopg [4] kj1 (fun kq v4 w' => ∃ (x4_2 : Int),v4 = .int .i64 x4_2 ∧ Aside0 (zAq.l0 kq (l0_0.length : Int) x4_2 l0_0 a0_1 = some r) ∧ Aside0 (kq ≤ kj1) ∧ Aside0 (w'.heap[gb272]? = some (.cells #[(.slice A0_0 l0_0.length c0_0),.int .i64 a0_1] 30 (0,0))) ∧ Aside0 (Below w.heap.size w w'))
    case atStart => exact ⟨(0),(by first | rfl | (simp; done) | (simp [*]; done)),H',⟨Nat.le_refl _⟩,⟨by (with_reducible repeat (first | apply zAb | apply zAd | apply zAa)); exact BK272.out⟩,⟨by repeat (first | (with_reducible first | exact HB.out | apply zAg | apply zAc | apply zAi | refine zAh ?_ GE272.out) | exact HB.out)⟩⟩
    case round =>
     clear H'
     try clear c2
     try clear p2
     try clear c5
     try clear c5b0
     try clear c5b1
     try clear c6
     try clear c6b0
     try clear c6b1
     try clear p6
     try clear c8
     try clear hcz4_0
     try clear hcz4_1
     try clear hcz7_0
     try clear hcz7_1
     try clear hfz4_0
     try clear hfz4_1
     try clear hfz7_0
     try clear hfz7_1
     try clear p2
     try clear p6
     obtain ⟨x4_2,rfl,HA,HK2,BK272,HB⟩:=hrel
     cases gk with
     | zero => exact absurd HA.out (by simp [zAq.l0])
     | succ k2 =>
      have H:=HA.out
      clear HA
      simp only [zAq.l0] at H
      by_cases c9 : x4_2 < (l0_0.length : Int)
      ·rw [if_pos c9] at H
       have c9b0 : decide (x4_2 < (l0_0.length : Int)) = true:=decide_eq_true c9
       clear c9
       have H':=Aside0.mk H
       clear H
       go_wp2
       go_loopg [5] k2 (fun kq v5 w' => ∃ (x5_3 : Int),v5 = .int .i64 x5_3 ∧ Aside0 (zAq.l1 kq (l0_0.length : Int) x4_2 x5_3 l0_0 a0_1 = some r) ∧ Aside0 (kq ≤ k2) ∧ Aside0 (w'.heap[gb272]? = some (.cells #[(.slice A0_0 l0_0.length c0_0),.int .i64 a0_1] 30 (0,0))) ∧ Aside0 (Below w.heap.size w w'))
       case atStart => exact ⟨(0),(by first | rfl | (simp; done) | (simp [*]; done)),H',⟨Nat.le_refl _⟩,⟨by (with_reducible repeat (first | apply zAb | apply zAd | apply zAa)); exact BK272.out⟩,⟨by repeat (first | (with_reducible first | exact HB.out | apply zAg | apply zAc | apply zAi | refine zAh ?_ GE272.out) | exact HB.out)⟩⟩
       case round =>
        clear H'
        try clear c2
        try clear p2
        try clear c5
        try clear c5b0
        try clear c5b1
        try clear c6
        try clear c6b0
        try clear c6b1
        try clear p6
        try clear c8
        try clear c9
        try clear c9b0
        try clear hcz4_0
        try clear hcz4_1
        try clear hcz7_0
        try clear hcz7_1
        try clear hfz4_0
        try clear hfz4_1
        try clear hfz7_0
        try clear hfz7_1
        try clear p2
        try clear p6
        obtain ⟨x5_3,rfl,HA,HK3,BK272,HB⟩:=hrel
        cases gk with
        | zero => exact absurd HA.out (by simp [zAq.l1])
        | succ k3 =>
         have H:=HA.out
         clear HA
         simp only [zAq.l1] at H
         by_cases c10 : 0 ≤ x4_2
         ·rw [if_pos c10] at H
          have c10b0 : decide (0 ≤ x4_2) = true:=decide_eq_true c10
          clear c10
          by_cases c11 : x4_2 < (l0_0.length : Int)
          ·rw [if_pos c11] at H
           have c11b0 : decide (x4_2 < (l0_0.length : Int)) = true:=decide_eq_true c11
           clear c11
           by_cases c12 : x5_3 < (((rd_T24 l0_0 x4_2).f4).length : Int)
           ·rw [if_pos c12] at H
            have c12b0 : decide (x5_3 < (((rd_T24 l0_0 x4_2).f4).length : Int)) = true:=decide_eq_true c12
            clear c12
            by_cases c13 : 0 ≤ x5_3
            ·rw [if_pos c13] at H
             have c13b0 : decide (0 ≤ x5_3) = true:=decide_eq_true c13
             clear c13
             by_cases c14 : (rd ((rd_T24 l0_0 x4_2).f4) x5_3) < 0
             ·rw [if_pos c14] at H
              have c14b0 : decide ((rd ((rd_T24 l0_0 x4_2).f4) x5_3) < 0) = true:=decide_eq_true c14
              clear c14
              obtain rfl:=Option.some.inj H
              have hcz15_0 : wr.cell? ⟨gb272,0,none⟩ = some (.slice A0_0 l0_0.length c0_0):=(zAf BK272.out 0).trans rfl
              have hcz15_1 : wr.cell? ⟨gb272,1,none⟩ = some (.int .i64 a0_1):=(zAf BK272.out 1).trans rfl
              have hfz15_0:=zAe BK272.out 0
              have hfz15_1:=zAe BK272.out 1
              have p274 : 0 ≤ (x4_2 : Int):=of_decide_eq_true (by first | (with_reducible assumption) | assumption)
              have q274 : x4_2 < (l0_0.length : Int):=of_decide_eq_true (by first | (with_reducible assumption) | assumption)
              obtain ⟨ad274,A274_4,c274_4,e274,hx274_0,hx274_1,hx274_2,hx274_3,hx274_4,hl274_4,hi274_4⟩:=at_T24 HR0_0.out x4_2 p274 q274
              cases e274
              replace hx274_0:=(HB.out.cell (World.block_lt_of_cell? w _ hx274_0)).trans hx274_0
              replace hx274_1:=(HB.out.cell (World.block_lt_of_cell? w _ hx274_1)).trans hx274_1
              replace hx274_2:=(HB.out.cell (World.block_lt_of_cell? w _ hx274_2)).trans hx274_2
              replace hx274_3:=(HB.out.cell (World.block_lt_of_cell? w _ hx274_3)).trans hx274_3
              replace hx274_4:=(HB.out.cell (World.block_lt_of_cell? w _ hx274_4)).trans hx274_4
              have HR274_4:=Aside0.mk hi274_4
              have HC274_4:=Aside0.mk hl274_4
              clear hi274_4 hl274_4
              replace p274:=eq_true p274
              replace q274:=eq_true q274
              have p275 : 0 ≤ (x4_2 : Int):=of_decide_eq_true (by first | (with_reducible assumption) | assumption)
              have q275 : x4_2 < (l0_0.length : Int):=of_decide_eq_true (by first | (with_reducible assumption) | assumption)
              obtain ⟨ad275,A275_4,c275_4,e275,hx275_0,hx275_1,hx275_2,hx275_3,hx275_4,hl275_4,hi275_4⟩:=at_T24 HR0_0.out x4_2 p275 q275
              obtain rfl : ad274 = ad275:=(by injection e275)
              replace hx275_0:=(HB.out.cell (World.block_lt_of_cell? w _ hx275_0)).trans hx275_0
              replace hx275_1:=(HB.out.cell (World.block_lt_of_cell? w _ hx275_1)).trans hx275_1
              replace hx275_2:=(HB.out.cell (World.block_lt_of_cell? w _ hx275_2)).trans hx275_2
              replace hx275_3:=(HB.out.cell (World.block_lt_of_cell? w _ hx275_3)).trans hx275_3
              replace hx275_4:=(HB.out.cell (World.block_lt_of_cell? w _ hx275_4)).trans hx275_4
              have HR275_4:=Aside0.mk hi275_4
              have HC275_4:=Aside0.mk hl275_4
              clear hi275_4 hl275_4
              replace p275:=eq_true p275
              replace q275:=eq_true q275
              have ea_:=Option.some.inj (hx274_4.symm.trans hx275_4)
              injection ea_ with ea_ en_ ec_
              subst ea_
              subst ec_
              clear en_
              have p276 : 0 ≤ (x5_3 : Int):=of_decide_eq_true (by first | (with_reducible assumption) | assumption)
              have q276 : x5_3 < (((rd_T24 l0_0 x4_2).f4).length : Int):=of_decide_eq_true (by first | (with_reducible assumption) | assumption)
              obtain ⟨ad276,e276,hx276_0⟩:=Kd.at_int HR275_4.out x5_3 p276 q276
              cases e276
              replace hx276_0:=(HB.out.cell (World.block_lt_of_cell? w _ hx276_0)).trans hx276_0
              replace p276:=eq_true p276
              replace q276:=eq_true q276
              go_wp2
              go_ret
              exact ⟨by first | rfl | (simp [zAo,zAn] <;> rfl) | (simp [*,zAo,zAn] <;> rfl),by repeat (first | (with_reducible first | exact HB.out | apply zAg | apply zAc | apply zAi | refine zAh ?_ GE272.out) | exact HB.out)⟩
             ·rw [if_neg c14] at H
              have c14b0 : decide ((rd ((rd_T24 l0_0 x4_2).f4) x5_3) < 0) = false:=decide_eq_false c14
              clear c14
              by_cases c16 : (rd ((rd_T24 l0_0 x4_2).f4) x5_3) ≥ x4_2
              ·rw [if_pos c16] at H
               have c16b0 : decide (x4_2 ≤ (rd ((rd_T24 l0_0 x4_2).f4) x5_3)) = true:=decide_eq_true c16
               clear c16
               obtain rfl:=Option.some.inj H
               have hcz17_0 : wr.cell? ⟨gb272,0,none⟩ = some (.slice A0_0 l0_0.length c0_0):=(zAf BK272.out 0).trans rfl
               have hcz17_1 : wr.cell? ⟨gb272,1,none⟩ = some (.int .i64 a0_1):=(zAf BK272.out 1).trans rfl
               have hfz17_0:=zAe BK272.out 0
               have hfz17_1:=zAe BK272.out 1
               have p274 : 0 ≤ (x4_2 : Int):=of_decide_eq_true (by first | (with_reducible assumption) | assumption)
               have q274 : x4_2 < (l0_0.length : Int):=of_decide_eq_true (by first | (with_reducible assumption) | assumption)
               obtain ⟨ad274,A274_4,c274_4,e274,hx274_0,hx274_1,hx274_2,hx274_3,hx274_4,hl274_4,hi274_4⟩:=at_T24 HR0_0.out x4_2 p274 q274
               cases e274
               replace hx274_0:=(HB.out.cell (World.block_lt_of_cell? w _ hx274_0)).trans hx274_0
               replace hx274_1:=(HB.out.cell (World.block_lt_of_cell? w _ hx274_1)).trans hx274_1
               replace hx274_2:=(HB.out.cell (World.block_lt_of_cell? w _ hx274_2)).trans hx274_2
               replace hx274_3:=(HB.out.cell (World.block_lt_of_cell? w _ hx274_3)).trans hx274_3
               replace hx274_4:=(HB.out.cell (World.block_lt_of_cell? w _ hx274_4)).trans hx274_4
               have HR274_4:=Aside0.mk hi274_4
               have HC274_4:=Aside0.mk hl274_4
               clear hi274_4 hl274_4
               replace p274:=eq_true p274
               replace q274:=eq_true q274
               have p275 : 0 ≤ (x4_2 : Int):=of_decide_eq_true (by first | (with_reducible assumption) | assumption)
               have q275 : x4_2 < (l0_0.length : Int):=of_decide_eq_true (by first | (with_reducible assumption) | assumption)
               obtain ⟨ad275,A275_4,c275_4,e275,hx275_0,hx275_1,hx275_2,hx275_3,hx275_4,hl275_4,hi275_4⟩:=at_T24 HR0_0.out x4_2 p275 q275
               obtain rfl : ad274 = ad275:=(by injection e275)
               replace hx275_0:=(HB.out.cell (World.block_lt_of_cell? w _ hx275_0)).trans hx275_0
               replace hx275_1:=(HB.out.cell (World.block_lt_of_cell? w _ hx275_1)).trans hx275_1
               replace hx275_2:=(HB.out.cell (World.block_lt_of_cell? w _ hx275_2)).trans hx275_2
               replace hx275_3:=(HB.out.cell (World.block_lt_of_cell? w _ hx275_3)).trans hx275_3
               replace hx275_4:=(HB.out.cell (World.block_lt_of_cell? w _ hx275_4)).trans hx275_4
               have HR275_4:=Aside0.mk hi275_4
               have HC275_4:=Aside0.mk hl275_4
               clear hi275_4 hl275_4
               replace p275:=eq_true p275
               replace q275:=eq_true q275
               have ea_:=Option.some.inj (hx274_4.symm.trans hx275_4)
               injection ea_ with ea_ en_ ec_
               subst ea_
               subst ec_
               clear en_
               have p276 : 0 ≤ (x5_3 : Int):=of_decide_eq_true (by first | (with_reducible assumption) | assumption)
               have q276 : x5_3 < (((rd_T24 l0_0 x4_2).f4).length : Int):=of_decide_eq_true (by first | (with_reducible assumption) | assumption)
               obtain ⟨ad276,e276,hx276_0⟩:=Kd.at_int HR275_4.out x5_3 p276 q276
               cases e276
               replace hx276_0:=(HB.out.cell (World.block_lt_of_cell? w _ hx276_0)).trans hx276_0
               replace p276:=eq_true p276
               replace q276:=eq_true q276
               have p277 : 0 ≤ (x4_2 : Int):=of_decide_eq_true (by first | (with_reducible assumption) | assumption)
               have q277 : x4_2 < (l0_0.length : Int):=of_decide_eq_true (by first | (with_reducible assumption) | assumption)
               obtain ⟨ad277,A277_4,c277_4,e277,hx277_0,hx277_1,hx277_2,hx277_3,hx277_4,hl277_4,hi277_4⟩:=at_T24 HR0_0.out x4_2 p277 q277
               obtain rfl : ad274 = ad277:=(by injection e277)
               replace hx277_0:=(HB.out.cell (World.block_lt_of_cell? w _ hx277_0)).trans hx277_0
               replace hx277_1:=(HB.out.cell (World.block_lt_of_cell? w _ hx277_1)).trans hx277_1
               replace hx277_2:=(HB.out.cell (World.block_lt_of_cell? w _ hx277_2)).trans hx277_2
               replace hx277_3:=(HB.out.cell (World.block_lt_of_cell? w _ hx277_3)).trans hx277_3
               replace hx277_4:=(HB.out.cell (World.block_lt_of_cell? w _ hx277_4)).trans hx277_4
               have HR277_4:=Aside0.mk hi277_4
               have HC277_4:=Aside0.mk hl277_4
               clear hi277_4 hl277_4
               replace p277:=eq_true p277
               replace q277:=eq_true q277
               have ea_:=Option.some.inj (hx274_4.symm.trans hx277_4)
               injection ea_ with ea_ en_ ec_
               subst ea_
               subst ec_
               clear en_
               have p278 : 0 ≤ (x5_3 : Int):=of_decide_eq_true (by first | (with_reducible assumption) | assumption)
               have q278 : x5_3 < (((rd_T24 l0_0 x4_2).f4).length : Int):=of_decide_eq_true (by first | (with_reducible assumption) | assumption)
               obtain ⟨ad278,e278,hx278_0⟩:=Kd.at_int HR277_4.out x5_3 p278 q278
               cases e278
               replace hx278_0:=(HB.out.cell (World.block_lt_of_cell? w _ hx278_0)).trans hx278_0
               replace p278:=eq_true p278
               replace q278:=eq_true q278
               go_wp2
               go_ret
               exact ⟨by first | rfl | (simp [zAo,zAn] <;> rfl) | (simp [*,zAo,zAn] <;> rfl),by repeat (first | (with_reducible first | exact HB.out | apply zAg | apply zAc | apply zAi | refine zAh ?_ GE272.out) | exact HB.out)⟩
              ·rw [if_neg c16] at H
               have c16b0 : decide (x4_2 ≤ (rd ((rd_T24 l0_0 x4_2).f4) x5_3)) = false:=decide_eq_false c16
               clear c16
               have H':=Aside0.mk H
               clear H
               have hcz18_0 : wr.cell? ⟨gb272,0,none⟩ = some (.slice A0_0 l0_0.length c0_0):=(zAf BK272.out 0).trans rfl
               have hcz18_1 : wr.cell? ⟨gb272,1,none⟩ = some (.int .i64 a0_1):=(zAf BK272.out 1).trans rfl
               have hfz18_0:=zAe BK272.out 0
               have hfz18_1:=zAe BK272.out 1
               have p274 : 0 ≤ (x4_2 : Int):=of_decide_eq_true (by first | (with_reducible assumption) | assumption)
               have q274 : x4_2 < (l0_0.length : Int):=of_decide_eq_true (by first | (with_reducible assumption) | assumption)
               obtain ⟨ad274,A274_4,c274_4,e274,hx274_0,hx274_1,hx274_2,hx274_3,hx274_4,hl274_4,hi274_4⟩:=at_T24 HR0_0.out x4_2 p274 q274
               cases e274
               replace hx274_0:=(HB.out.cell (World.block_lt_of_cell? w _ hx274_0)).trans hx274_0
               replace hx274_1:=(HB.out.cell (World.block_lt_of_cell? w _ hx274_1)).trans hx274_1
               replace hx274_2:=(HB.out.cell (World.block_lt_of_cell? w _ hx274_2)).trans hx274_2
               replace hx274_3:=(HB.out.cell (World.block_lt_of_cell? w _ hx274_3)).trans hx274_3
               replace hx274_4:=(HB.out.cell (World.block_lt_of_cell? w _ hx274_4)).trans hx274_4
               have HR274_4:=Aside0.mk hi274_4
               have HC274_4:=Aside0.mk hl274_4
               clear hi274_4 hl274_4
               replace p274:=eq_true p274
               replace q274:=eq_true q274
               have p275 : 0 ≤ (x4_2 : Int):=of_decide_eq_true (by first | (with_reducible assumption) | assumption)
               have q275 : x4_2 < (l0_0.length : Int):=of_decide_eq_true (by first | (with_reducible assumption) | assumption)
               obtain ⟨ad275,A275_4,c275_4,e275,hx275_0,hx275_1,hx275_2,hx275_3,hx275_4,hl275_4,hi275_4⟩:=at_T24 HR0_0.out x4_2 p275 q275
               obtain rfl : ad274 = ad275:=(by injection e275)
               replace hx275_0:=(HB.out.cell (World.block_lt_of_cell? w _ hx275_0)).trans hx275_0
               replace hx275_1:=(HB.out.cell (World.block_lt_of_cell? w _ hx275_1)).trans hx275_1
               replace hx275_2:=(HB.out.cell (World.block_lt_of_cell? w _ hx275_2)).trans hx275_2
               replace hx275_3:=(HB.out.cell (World.block_lt_of_cell? w _ hx275_3)).trans hx275_3
               replace hx275_4:=(HB.out.cell (World.block_lt_of_cell? w _ hx275_4)).trans hx275_4
               have HR275_4:=Aside0.mk hi275_4
               have HC275_4:=Aside0.mk hl275_4
               clear hi275_4 hl275_4
               replace p275:=eq_true p275
               replace q275:=eq_true q275
               have ea_:=Option.some.inj (hx274_4.symm.trans hx275_4)
               injection ea_ with ea_ en_ ec_
               subst ea_
               subst ec_
               clear en_
               have p276 : 0 ≤ (x5_3 : Int):=of_decide_eq_true (by first | (with_reducible assumption) | assumption)
               have q276 : x5_3 < (((rd_T24 l0_0 x4_2).f4).length : Int):=of_decide_eq_true (by first | (with_reducible assumption) | assumption)
               obtain ⟨ad276,e276,hx276_0⟩:=Kd.at_int HR275_4.out x5_3 p276 q276
               cases e276
               replace hx276_0:=(HB.out.cell (World.block_lt_of_cell? w _ hx276_0)).trans hx276_0
               replace p276:=eq_true p276
               replace q276:=eq_true q276
               have p277 : 0 ≤ (x4_2 : Int):=of_decide_eq_true (by first | (with_reducible assumption) | assumption)
               have q277 : x4_2 < (l0_0.length : Int):=of_decide_eq_true (by first | (with_reducible assumption) | assumption)
               obtain ⟨ad277,A277_4,c277_4,e277,hx277_0,hx277_1,hx277_2,hx277_3,hx277_4,hl277_4,hi277_4⟩:=at_T24 HR0_0.out x4_2 p277 q277
               obtain rfl : ad274 = ad277:=(by injection e277)
               replace hx277_0:=(HB.out.cell (World.block_lt_of_cell? w _ hx277_0)).trans hx277_0
               replace hx277_1:=(HB.out.cell (World.block_lt_of_cell? w _ hx277_1)).trans hx277_1
               replace hx277_2:=(HB.out.cell (World.block_lt_of_cell? w _ hx277_2)).trans hx277_2
               replace hx277_3:=(HB.out.cell (World.block_lt_of_cell? w _ hx277_3)).trans hx277_3
               replace hx277_4:=(HB.out.cell (World.block_lt_of_cell? w _ hx277_4)).trans hx277_4
               have HR277_4:=Aside0.mk hi277_4
               have HC277_4:=Aside0.mk hl277_4
               clear hi277_4 hl277_4
               replace p277:=eq_true p277
               replace q277:=eq_true q277
               have ea_:=Option.some.inj (hx274_4.symm.trans hx277_4)
               injection ea_ with ea_ en_ ec_
               subst ea_
               subst ec_
               clear en_
               have p278 : 0 ≤ (x5_3 : Int):=of_decide_eq_true (by first | (with_reducible assumption) | assumption)
               have q278 : x5_3 < (((rd_T24 l0_0 x4_2).f4).length : Int):=of_decide_eq_true (by first | (with_reducible assumption) | assumption)
               obtain ⟨ad278,e278,hx278_0⟩:=Kd.at_int HR277_4.out x5_3 p278 q278
               cases e278
               replace hx278_0:=(HB.out.cell (World.block_lt_of_cell? w _ hx278_0)).trans hx278_0
               replace p278:=eq_true p278
               replace q278:=eq_true q278
               go_wp2
               go_roundg k3
               case measure => have:=HJ1.out; have:=HK2.out; have:=HK3.out; omega
               case rel => exact ⟨(wrap64 (x5_3 + 1)),(by first | rfl | (simp; done) | (simp [*]; done)),H',⟨by have:=HJ1.out; have:=HK2.out; have:=HK3.out; omega⟩,⟨by (with_reducible repeat (first | apply zAb | apply zAd | apply zAa)); exact BK272.out⟩,⟨by repeat (first | (with_reducible first | exact HB.out | apply zAg | apply zAc | apply zAi | refine zAh ?_ GE272.out) | exact HB.out)⟩⟩
            ·rw [if_neg c13] at H
             exact absurd H (by simp)
           ·rw [if_neg c12] at H
            have c12b0 : decide (x5_3 < (((rd_T24 l0_0 x4_2).f4).length : Int)) = false:=decide_eq_false c12
            clear c12
            have H':=Aside0.mk H
            clear H
            have hcz19_0 : wr.cell? ⟨gb272,0,none⟩ = some (.slice A0_0 l0_0.length c0_0):=(zAf BK272.out 0).trans rfl
            have hcz19_1 : wr.cell? ⟨gb272,1,none⟩ = some (.int .i64 a0_1):=(zAf BK272.out 1).trans rfl
            have hfz19_0:=zAe BK272.out 0
            have hfz19_1:=zAe BK272.out 1
            have p274 : 0 ≤ (x4_2 : Int):=of_decide_eq_true (by first | (with_reducible assumption) | assumption)
            have q274 : x4_2 < (l0_0.length : Int):=of_decide_eq_true (by first | (with_reducible assumption) | assumption)
            obtain ⟨ad274,A274_4,c274_4,e274,hx274_0,hx274_1,hx274_2,hx274_3,hx274_4,hl274_4,hi274_4⟩:=at_T24 HR0_0.out x4_2 p274 q274
            cases e274
            replace hx274_0:=(HB.out.cell (World.block_lt_of_cell? w _ hx274_0)).trans hx274_0
            replace hx274_1:=(HB.out.cell (World.block_lt_of_cell? w _ hx274_1)).trans hx274_1
            replace hx274_2:=(HB.out.cell (World.block_lt_of_cell? w _ hx274_2)).trans hx274_2
            replace hx274_3:=(HB.out.cell (World.block_lt_of_cell? w _ hx274_3)).trans hx274_3
            replace hx274_4:=(HB.out.cell (World.block_lt_of_cell? w _ hx274_4)).trans hx274_4
            have HR274_4:=Aside0.mk hi274_4
            have HC274_4:=Aside0.mk hl274_4
            clear hi274_4 hl274_4
            replace p274:=eq_true p274
            replace q274:=eq_true q274
            go_wp2
            go_roundg k3
            case measure => have:=HJ1.out; have:=HK2.out; have:=HK3.out; omega
            case rel => exact ⟨(wrap64 (x4_2 + 1)),(by first | rfl | (simp; done) | (simp [*]; done)),H',⟨by have:=HJ1.out; have:=HK2.out; have:=HK3.out; omega⟩,⟨by (with_reducible repeat (first | apply zAb | apply zAd | apply zAa)); exact BK272.out⟩,⟨by repeat (first | (with_reducible first | exact HB.out | apply zAg | apply zAc | apply zAi | refine zAh ?_ GE272.out) | exact HB.out)⟩⟩
          ·rw [if_neg c11] at H
           exact absurd H (by simp)
         ·rw [if_neg c10] at H
          exact absurd H (by simp)
      ·rw [if_neg c9] at H
       have c9b0 : decide (x4_2 < (l0_0.length : Int)) = false:=decide_eq_false c9
       clear c9
       replace H:=Option.bind_eq_some_iff.mp H
       obtain ⟨t273,A200,H⟩:=H
       replace H : (some (t273 == 0)) = some r:=H
       have A20:=Aside0.mk A200
       clear A200
       obtain rfl:=Option.some.inj H
       have hcz21_0 : wr.cell? ⟨gb272,0,none⟩ = some (.slice A0_0 l0_0.length c0_0):=(zAf BK272.out 0).trans rfl
       have hcz21_1 : wr.cell? ⟨gb272,1,none⟩ = some (.int .i64 a0_1):=(zAf BK272.out 1).trans rfl
       have hfz21_0:=zAe BK272.out 0
       have hfz21_1:=zAe BK272.out 1
       go_wp2_with (first | ((with_reducible refine zAA (f:=34) rfl ?_); refine goesL_ (some 65) rfl rfl Try.func34 (by kernel_rfl) rfl #[.slice A0_0 l0_0.length c0_0,.int .i64 (wrap64 ((l0_0.length : Int) - 1))] rfl (by (try simp only [List.map_toArray,List.map_cons,List.map_nil]); first | done | rfl | (simp only [List.length_drop,List.length_take]; rfl)) ?_; (with_reducible refine (zAt.calls k2 _ _ l0_0 (wrap64 ((l0_0.length : Int) - 1)) t273 _ ?side1 ?side2 A20.out).mono ?_); (case side1 => repeat (first | exact (Kd.C_below HR0_0.out HB.out) | (with_reducible refine Kd.C_alloc ?_ _) | (with_reducible refine Kd.C_drewN ?_ _) | (with_reducible refine Kd.C_drew ?_))); (case side2 => exact HC0_0.out); rintro e w' ⟨rfl,⟨nd,rfl⟩⟩; refine ⟨_,rfl,?_⟩))
       go_ret
       exact ⟨by first | rfl | (simp [zAo,zAn] <;> rfl) | (simp [*,zAo,zAn] <;> rfl),by repeat (first | (with_reducible first | exact HB.out | apply zAg | apply zAc | apply zAi | refine zAh ?_ GE272.out) | exact HB.out)⟩
end Go.Proofs.Ytpggidmpkhmijaa.P
