import Derived.Test.YtpggidmpkhmijaaRose
import Derived.Test.YtpggidmpkhmijaaPf20
import Derived.Test.YtpggidmpkhmijaaPf22
import Derived.Test.YtpggidmpkhmijaaPf35
import Derived.Test.YtpggidmpkhmijaaPf46
import Derived.Test.YtpggidmpkhmijaaTrJ
set_option linter.unusedVariables false
set_option linter.unusedSimpArgs false
namespace Go.Proofs.Ytpggidmpkhmijaa.P
open Go.RowKit Go.Proofs.YtpggidmpkhmijaaW.PrintWords Go.Proofs.YtpggidmpkhmijaaW.PrintLast Go.Proofs.YtpggidmpkhmijaaW.PrintMore
attribute [local go_sem] zBa zAY max_two min_two zAR zAT zAZ zAX
def zAW.f (k : Nat) (l0_0 : List (S24)) (a0_1 : Int) : Option (Bool):=(zAq.f k l0_0 a0_1).bind fun t348 => (if t348 = true then ((zAv.f k l0_0 a0_1).bind fun t349 => (if t349 > 40 then (some false) else (if 0 ≤ a0_1 then (if a0_1 < (l0_0.length : Int) then (if ((rd_T24 l0_0 a0_1).f0) = 1 then ((zAw.f k l0_0 a0_1).bind fun t351 => (some t351)) else (some false)) else (none)) else (none)))) else (some false))
set_option maxHeartbeats 8000000 in
set_option maxRecDepth 100000 in
theorem zAW.calls (k : Nat) (A0_0 : Option Addr) (c0_0 : Nat) (l0_0 : List (S24)) (a0_1 : Int) (r : Bool) (w : World) (hr0_0 : Kd.C k24 w A0_0 l0_0.length l0_0) (hc0_0 : l0_0.length ≤ c0_0) (h : zAW.f k l0_0 a0_1 = some r) :
  Calls Try.prog 21 #[.agg #[.slice A0_0 l0_0.length c0_0,.int .i64 a0_1]] w fun e w' => e = .returned (.bool r) ∧ Below w.heap.size w w':=by
 have hu30:=Try.underlying30
 have HR0_0:=Aside0.mk hr0_0
 have HC0_0:=Aside0.mk hc0_0
 clear hr0_0 hc0_0
 have HB:=Aside0.mk (Below.refl w.heap.size w)
 have H : ((zAq.f k l0_0 a0_1).bind fun t348 => (if t348 = true then ((zAv.f k l0_0 a0_1).bind fun t349 => (if t349 > 40 then (some false) else (if 0 ≤ a0_1 then (if a0_1 < (l0_0.length : Int) then (if ((rd_T24 l0_0 a0_1).f0) = 1 then ((zAw.f k l0_0 a0_1).bind fun t351 => (some t351)) else (some false)) else (none)) else (none)))) else (some false))) = some r:=h
 clear h
 replace H:=Option.bind_eq_some_iff.mp H
 obtain ⟨t348,A20,H⟩:=H
 replace H : (if t348 = true then ((zAv.f k l0_0 a0_1).bind fun t349 => (if t349 > 40 then (some false) else (if 0 ≤ a0_1 then (if a0_1 < (l0_0.length : Int) then (if ((rd_T24 l0_0 a0_1).f0) = 1 then ((zAw.f k l0_0 a0_1).bind fun t351 => (some t351)) else (some false)) else (none)) else (none)))) else (some false)) = some r:=H
 have A2:=Aside0.mk A20
 clear A20
 by_cases c3 : t348 = true
 ·subst c3
  have H1 : ((zAv.f k l0_0 a0_1).bind fun t349 => (if t349 > 40 then (some false) else (if 0 ≤ a0_1 then (if a0_1 < (l0_0.length : Int) then (if ((rd_T24 l0_0 a0_1).f0) = 1 then ((zAw.f k l0_0 a0_1).bind fun t351 => (some t351)) else (some false)) else (none)) else (none)))) = some r:=by rw [if_pos rfl] at H; exact H
  clear H
  have H:=H1
  clear H1
  replace H:=Option.bind_eq_some_iff.mp H
  obtain ⟨t349,A40,H⟩:=H
  replace H : (if t349 > 40 then (some false) else (if 0 ≤ a0_1 then (if a0_1 < (l0_0.length : Int) then (if ((rd_T24 l0_0 a0_1).f0) = 1 then ((zAw.f k l0_0 a0_1).bind fun t351 => (some t351)) else (some false)) else (none)) else (none))) = some r:=H
  have A4:=Aside0.mk A40
  clear A40
  by_cases c5 : t349 > 40
  ·rw [if_pos c5] at H
   have c5b0 : decide (40 < t349) = true:=decide_eq_true c5
   clear c5
   obtain rfl:=Option.some.inj H
   go_enter Try.func21,Try.ntmps21
   go_wp2_with (first | ((with_reducible refine zAM (N:=1) rfl ?_); refine zAL ?hg (N:=1) ?hd (cs:=#[.slice A0_0 l0_0.length c0_0,.int .i64 a0_1]) (t:=30) ?hr ?_; (case hd => rfl); (case hg => rfl); (case hr => first | (go_simp; done) | (go_simp; rfl)); intro gb347 hg w6 hbox hb; have n0_:=Aside0.mk (zAm (by repeat (first | (with_reducible first | exact HB.out | apply zAg | apply zAc | apply zAi) | exact HB.out)) hb); have n1_:=Aside0.mk (hbox); have n2_:=Aside0.mk ((by rw [hg]; exact (zAp (by repeat (first | (with_reducible first | exact HB.out | apply zAg | apply zAc | apply zAi) | exact HB.out))) : w.heap.size ≤ gb347)); have n3_:=Aside0.mk ((by rw [hg]; exact (zAp (by repeat (first | (with_reducible first | exact HB.out | apply zAg | apply zAc | apply zAi) | exact HB.out))) : w.heap.size ≤ gb347)); clear HB; have HB:=n0_; have BK347:=n1_; have GW347:=n2_; have GE347:=n3_; clear n0_ n1_ n2_ n3_; clear hb hbox hg; have hcz7_0 : w6.cell? ⟨gb347,0,none⟩ = some (.slice A0_0 l0_0.length c0_0):=(zAf BK347.out 0).trans rfl; have hcz7_1 : w6.cell? ⟨gb347,1,none⟩ = some (.int .i64 a0_1):=(zAf BK347.out 1).trans rfl; have hfz7_0:=zAe BK347.out 0; have hfz7_1:=zAe BK347.out 1) | ((with_reducible refine zAA (f:=20) rfl ?_); refine goesL_ (some 5) rfl rfl Try.func20 (by kernel_rfl) rfl #[.agg #[.slice A0_0 l0_0.length c0_0,.int .i64 a0_1]] rfl (by (try simp only [List.map_toArray,List.map_cons,List.map_nil]); first | done | rfl | (simp only [List.length_drop,List.length_take]; rfl)) ?_; (with_reducible refine (zAq.calls k _ _ l0_0 a0_1 true _ ?side1 ?side2 A2.out).mono ?_); (case side1 => repeat (first | exact (Kd.C_below HR0_0.out HB.out) | (with_reducible refine Kd.C_alloc ?_ _) | (with_reducible refine Kd.C_drewN ?_ _) | (with_reducible refine Kd.C_drew ?_))); (case side2 => exact HC0_0.out); rintro e w8 ⟨rfl,hb⟩; refine ⟨_,rfl,?_⟩; have n0_:=Aside0.mk (zAs (g:=gb347) (o:=.cells #[.slice A0_0 l0_0.length c0_0,.int .i64 a0_1] 30 (0,0)) (by (with_reducible repeat (first | apply zAb | apply zAd | apply zAa)); exact BK347.out) hb); have n1_:=Aside0.mk (zAm (by repeat (first | (with_reducible first | exact HB.out | apply zAg | apply zAc | apply zAi | refine zAh ?_ GE347.out) | exact HB.out)) hb); clear BK347; clear HB; have BK347:=n0_; have HB:=n1_; clear n0_ n1_; (try clear hb); (try clear hb2); (try clear hk); (try clear hi); have hcz9_0 : w8.cell? ⟨gb347,0,none⟩ = some (.slice A0_0 l0_0.length c0_0):=(zAf BK347.out 0).trans rfl; have hcz9_1 : w8.cell? ⟨gb347,1,none⟩ = some (.int .i64 a0_1):=(zAf BK347.out 1).trans rfl; have hfz9_0:=zAe BK347.out 0; have hfz9_1:=zAe BK347.out 1) | (go_at_call 22; (with_reducible refine (zAv.calls k _ _ l0_0 a0_1 t349 _ ?side1 ?side2 A4.out).mono ?_); (case side1 => repeat (first | exact (Kd.C_below HR0_0.out HB.out) | (with_reducible refine Kd.C_alloc ?_ _) | (with_reducible refine Kd.C_drewN ?_ _) | (with_reducible refine Kd.C_drew ?_))); (case side2 => exact HC0_0.out); rintro e w10 ⟨rfl,hb⟩; have n0_:=Aside0.mk (zAs (g:=gb347) (o:=.cells #[.slice A0_0 l0_0.length c0_0,.int .i64 a0_1] 30 (0,0)) (by (with_reducible repeat (first | apply zAb | apply zAd | apply zAa)); exact BK347.out) hb); have n1_:=Aside0.mk (zAm (by repeat (first | (with_reducible first | exact HB.out | apply zAg | apply zAc | apply zAi | refine zAh ?_ GE347.out) | exact HB.out)) hb); clear BK347; clear HB; have BK347:=n0_; have HB:=n1_; clear n0_ n1_; (try clear hb); (try clear hb2); (try clear hk); (try clear hi)))
   go_ret
   exact ⟨by first | rfl | (simp [zAo,zAn] <;> rfl) | (simp [*,zAo,zAn] <;> rfl),by repeat (first | (with_reducible first | exact HB.out | apply zAg | apply zAc | apply zAi | refine zAh ?_ GE347.out) | exact HB.out)⟩
  ·rw [if_neg c5] at H
   have c5b0 : decide (40 < t349) = false:=decide_eq_false c5
   clear c5
   by_cases c11 : 0 ≤ a0_1
   ·rw [if_pos c11] at H
    have c11b0 : decide (0 ≤ a0_1) = true:=decide_eq_true c11
    clear c11
    by_cases c12 : a0_1 < (l0_0.length : Int)
    ·rw [if_pos c12] at H
     have c12b0 : decide (a0_1 < (l0_0.length : Int)) = true:=decide_eq_true c12
     clear c12
     by_cases c13 : ((rd_T24 l0_0 a0_1).f0) = 1
     ·rw [if_pos c13] at H
      have c13b0 : (((rd_T24 l0_0 a0_1).f0) == 1) = true:=beq_iff_eq.mpr c13
      have c13b1 : (((rd_T24 l0_0 a0_1).f0) != 1) = false:=bne_eq_false_iff_eq.mpr c13
      clear c13
      replace H:=Option.bind_eq_some_iff.mp H
      obtain ⟨t351,A140,H⟩:=H
      replace H : (some t351) = some r:=H
      have A14:=Aside0.mk A140
      clear A140
      obtain rfl:=Option.some.inj H
      go_enter Try.func21,Try.ntmps21
      go_wp2_with (first | ((with_reducible refine zAM (N:=1) rfl ?_); refine zAL ?hg (N:=1) ?hd (cs:=#[.slice A0_0 l0_0.length c0_0,.int .i64 a0_1]) (t:=30) ?hr ?_; (case hd => rfl); (case hg => rfl); (case hr => first | (go_simp; done) | (go_simp; rfl)); intro gb347 hg w15 hbox hb; have n0_:=Aside0.mk (zAm (by repeat (first | (with_reducible first | exact HB.out | apply zAg | apply zAc | apply zAi) | exact HB.out)) hb); have n1_:=Aside0.mk (hbox); have n2_:=Aside0.mk ((by rw [hg]; exact (zAp (by repeat (first | (with_reducible first | exact HB.out | apply zAg | apply zAc | apply zAi) | exact HB.out))) : w.heap.size ≤ gb347)); have n3_:=Aside0.mk ((by rw [hg]; exact (zAp (by repeat (first | (with_reducible first | exact HB.out | apply zAg | apply zAc | apply zAi) | exact HB.out))) : w.heap.size ≤ gb347)); clear HB; have HB:=n0_; have BK347:=n1_; have GW347:=n2_; have GE347:=n3_; clear n0_ n1_ n2_ n3_; clear hb hbox hg; have hcz16_0 : w15.cell? ⟨gb347,0,none⟩ = some (.slice A0_0 l0_0.length c0_0):=(zAf BK347.out 0).trans rfl; have hcz16_1 : w15.cell? ⟨gb347,1,none⟩ = some (.int .i64 a0_1):=(zAf BK347.out 1).trans rfl; have hfz16_0:=zAe BK347.out 0; have hfz16_1:=zAe BK347.out 1) | ((with_reducible refine zAA (f:=20) rfl ?_); refine goesL_ (some 5) rfl rfl Try.func20 (by kernel_rfl) rfl #[.agg #[.slice A0_0 l0_0.length c0_0,.int .i64 a0_1]] rfl (by (try simp only [List.map_toArray,List.map_cons,List.map_nil]); first | done | rfl | (simp only [List.length_drop,List.length_take]; rfl)) ?_; (with_reducible refine (zAq.calls k _ _ l0_0 a0_1 true _ ?side1 ?side2 A2.out).mono ?_); (case side1 => repeat (first | exact (Kd.C_below HR0_0.out HB.out) | (with_reducible refine Kd.C_alloc ?_ _) | (with_reducible refine Kd.C_drewN ?_ _) | (with_reducible refine Kd.C_drew ?_))); (case side2 => exact HC0_0.out); rintro e w17 ⟨rfl,hb⟩; refine ⟨_,rfl,?_⟩; have n0_:=Aside0.mk (zAs (g:=gb347) (o:=.cells #[.slice A0_0 l0_0.length c0_0,.int .i64 a0_1] 30 (0,0)) (by (with_reducible repeat (first | apply zAb | apply zAd | apply zAa)); exact BK347.out) hb); have n1_:=Aside0.mk (zAm (by repeat (first | (with_reducible first | exact HB.out | apply zAg | apply zAc | apply zAi | refine zAh ?_ GE347.out) | exact HB.out)) hb); clear BK347; clear HB; have BK347:=n0_; have HB:=n1_; clear n0_ n1_; (try clear hb); (try clear hb2); (try clear hk); (try clear hi); have hcz18_0 : w17.cell? ⟨gb347,0,none⟩ = some (.slice A0_0 l0_0.length c0_0):=(zAf BK347.out 0).trans rfl; have hcz18_1 : w17.cell? ⟨gb347,1,none⟩ = some (.int .i64 a0_1):=(zAf BK347.out 1).trans rfl; have hfz18_0:=zAe BK347.out 0; have hfz18_1:=zAe BK347.out 1) | (go_at_call 22; (with_reducible refine (zAv.calls k _ _ l0_0 a0_1 t349 _ ?side1 ?side2 A4.out).mono ?_); (case side1 => repeat (first | exact (Kd.C_below HR0_0.out HB.out) | (with_reducible refine Kd.C_alloc ?_ _) | (with_reducible refine Kd.C_drewN ?_ _) | (with_reducible refine Kd.C_drew ?_))); (case side2 => exact HC0_0.out); rintro e w19 ⟨rfl,hb⟩; have n0_:=Aside0.mk (zAs (g:=gb347) (o:=.cells #[.slice A0_0 l0_0.length c0_0,.int .i64 a0_1] 30 (0,0)) (by (with_reducible repeat (first | apply zAb | apply zAd | apply zAa)); exact BK347.out) hb); have n1_:=Aside0.mk (zAm (by repeat (first | (with_reducible first | exact HB.out | apply zAg | apply zAc | apply zAi | refine zAh ?_ GE347.out) | exact HB.out)) hb); clear BK347; clear HB; have BK347:=n0_; have HB:=n1_; clear n0_ n1_; (try clear hb); (try clear hb2); (try clear hk); (try clear hi); have hcz20_0 : w19.cell? ⟨gb347,0,none⟩ = some (.slice A0_0 l0_0.length c0_0):=(zAf BK347.out 0).trans rfl; have hcz20_1 : w19.cell? ⟨gb347,1,none⟩ = some (.int .i64 a0_1):=(zAf BK347.out 1).trans rfl; have hfz20_0:=zAe BK347.out 0; have hfz20_1:=zAe BK347.out 1; have p350 : 0 ≤ (a0_1 : Int):=of_decide_eq_true (by first | (with_reducible assumption) | assumption); have q350 : a0_1 < (l0_0.length : Int):=of_decide_eq_true (by first | (with_reducible assumption) | assumption); obtain ⟨ad350,A350_4,c350_4,e350,hx350_0,hx350_1,hx350_2,hx350_3,hx350_4,hl350_4,hi350_4⟩:=at_T24 HR0_0.out a0_1 p350 q350; cases e350; replace hx350_0:=(HB.out.cell (World.block_lt_of_cell? w _ hx350_0)).trans hx350_0; replace hx350_1:=(HB.out.cell (World.block_lt_of_cell? w _ hx350_1)).trans hx350_1; replace hx350_2:=(HB.out.cell (World.block_lt_of_cell? w _ hx350_2)).trans hx350_2; replace hx350_3:=(HB.out.cell (World.block_lt_of_cell? w _ hx350_3)).trans hx350_3; replace hx350_4:=(HB.out.cell (World.block_lt_of_cell? w _ hx350_4)).trans hx350_4; have HR350_4:=Aside0.mk hi350_4; have HC350_4:=Aside0.mk hl350_4; clear hi350_4 hl350_4; replace p350:=eq_true p350; replace q350:=eq_true q350) | ((with_reducible refine zAA (f:=35) rfl ?_); refine goesL_ (some 24) rfl rfl Try.func35 (by kernel_rfl) rfl #[.agg #[.slice (some ad350) l0_0.length c0_0,.int .i64 a0_1]] rfl (by (try simp only [List.map_toArray,List.map_cons,List.map_nil]); first | done | rfl | (simp only [List.length_drop,List.length_take]; rfl)) ?_; (with_reducible refine (zAw.calls k _ _ l0_0 a0_1 t351 _ ?side1 ?side2 A14.out).mono ?_); (case side1 => repeat (first | exact (Kd.C_below HR0_0.out HB.out) | (with_reducible refine Kd.C_alloc ?_ _) | (with_reducible refine Kd.C_drewN ?_ _) | (with_reducible refine Kd.C_drew ?_))); (case side2 => exact HC0_0.out); rintro e w21 ⟨rfl,hb⟩; refine ⟨_,rfl,?_⟩; have n0_:=Aside0.mk (zAs (g:=gb347) (o:=.cells #[.slice (some ad350) l0_0.length c0_0,.int .i64 a0_1] 30 (0,0)) (by (with_reducible repeat (first | apply zAb | apply zAd | apply zAa)); exact BK347.out) hb); have n1_:=Aside0.mk (zAm (by repeat (first | (with_reducible first | exact HB.out | apply zAg | apply zAc | apply zAi | refine zAh ?_ GE347.out) | exact HB.out)) hb); clear BK347; clear HB; have BK347:=n0_; have HB:=n1_; clear n0_ n1_; (try clear hb); (try clear hb2); (try clear hk); (try clear hi)))
      go_ret
      exact ⟨by first | rfl | (simp [zAo,zAn] <;> rfl) | (simp [*,zAo,zAn] <;> rfl),by repeat (first | (with_reducible first | exact HB.out | apply zAg | apply zAc | apply zAi | refine zAh ?_ GE347.out) | exact HB.out)⟩
     ·rw [if_neg c13] at H
      have c13b0 : (((rd_T24 l0_0 a0_1).f0) == 1) = false:=beq_eq_false_iff_ne.mpr c13
      have c13b1 : (((rd_T24 l0_0 a0_1).f0) != 1) = true:=bne_iff_ne.mpr c13
      obtain rfl:=Option.some.inj H
      go_enter Try.func21,Try.ntmps21
      go_wp2_with (first | ((with_reducible refine zAM (N:=1) rfl ?_); refine zAL ?hg (N:=1) ?hd (cs:=#[.slice A0_0 l0_0.length c0_0,.int .i64 a0_1]) (t:=30) ?hr ?_; (case hd => rfl); (case hg => rfl); (case hr => first | (go_simp; done) | (go_simp; rfl)); intro gb347 hg w22 hbox hb; have n0_:=Aside0.mk (zAm (by repeat (first | (with_reducible first | exact HB.out | apply zAg | apply zAc | apply zAi) | exact HB.out)) hb); have n1_:=Aside0.mk (hbox); have n2_:=Aside0.mk ((by rw [hg]; exact (zAp (by repeat (first | (with_reducible first | exact HB.out | apply zAg | apply zAc | apply zAi) | exact HB.out))) : w.heap.size ≤ gb347)); have n3_:=Aside0.mk ((by rw [hg]; exact (zAp (by repeat (first | (with_reducible first | exact HB.out | apply zAg | apply zAc | apply zAi) | exact HB.out))) : w.heap.size ≤ gb347)); clear HB; have HB:=n0_; have BK347:=n1_; have GW347:=n2_; have GE347:=n3_; clear n0_ n1_ n2_ n3_; clear hb hbox hg; have hcz23_0 : w22.cell? ⟨gb347,0,none⟩ = some (.slice A0_0 l0_0.length c0_0):=(zAf BK347.out 0).trans rfl; have hcz23_1 : w22.cell? ⟨gb347,1,none⟩ = some (.int .i64 a0_1):=(zAf BK347.out 1).trans rfl; have hfz23_0:=zAe BK347.out 0; have hfz23_1:=zAe BK347.out 1) | ((with_reducible refine zAA (f:=20) rfl ?_); refine goesL_ (some 5) rfl rfl Try.func20 (by kernel_rfl) rfl #[.agg #[.slice A0_0 l0_0.length c0_0,.int .i64 a0_1]] rfl (by (try simp only [List.map_toArray,List.map_cons,List.map_nil]); first | done | rfl | (simp only [List.length_drop,List.length_take]; rfl)) ?_; (with_reducible refine (zAq.calls k _ _ l0_0 a0_1 true _ ?side1 ?side2 A2.out).mono ?_); (case side1 => repeat (first | exact (Kd.C_below HR0_0.out HB.out) | (with_reducible refine Kd.C_alloc ?_ _) | (with_reducible refine Kd.C_drewN ?_ _) | (with_reducible refine Kd.C_drew ?_))); (case side2 => exact HC0_0.out); rintro e w24 ⟨rfl,hb⟩; refine ⟨_,rfl,?_⟩; have n0_:=Aside0.mk (zAs (g:=gb347) (o:=.cells #[.slice A0_0 l0_0.length c0_0,.int .i64 a0_1] 30 (0,0)) (by (with_reducible repeat (first | apply zAb | apply zAd | apply zAa)); exact BK347.out) hb); have n1_:=Aside0.mk (zAm (by repeat (first | (with_reducible first | exact HB.out | apply zAg | apply zAc | apply zAi | refine zAh ?_ GE347.out) | exact HB.out)) hb); clear BK347; clear HB; have BK347:=n0_; have HB:=n1_; clear n0_ n1_; (try clear hb); (try clear hb2); (try clear hk); (try clear hi); have hcz25_0 : w24.cell? ⟨gb347,0,none⟩ = some (.slice A0_0 l0_0.length c0_0):=(zAf BK347.out 0).trans rfl; have hcz25_1 : w24.cell? ⟨gb347,1,none⟩ = some (.int .i64 a0_1):=(zAf BK347.out 1).trans rfl; have hfz25_0:=zAe BK347.out 0; have hfz25_1:=zAe BK347.out 1) | (go_at_call 22; (with_reducible refine (zAv.calls k _ _ l0_0 a0_1 t349 _ ?side1 ?side2 A4.out).mono ?_); (case side1 => repeat (first | exact (Kd.C_below HR0_0.out HB.out) | (with_reducible refine Kd.C_alloc ?_ _) | (with_reducible refine Kd.C_drewN ?_ _) | (with_reducible refine Kd.C_drew ?_))); (case side2 => exact HC0_0.out); rintro e w26 ⟨rfl,hb⟩; have n0_:=Aside0.mk (zAs (g:=gb347) (o:=.cells #[.slice A0_0 l0_0.length c0_0,.int .i64 a0_1] 30 (0,0)) (by (with_reducible repeat (first | apply zAb | apply zAd | apply zAa)); exact BK347.out) hb); have n1_:=Aside0.mk (zAm (by repeat (first | (with_reducible first | exact HB.out | apply zAg | apply zAc | apply zAi | refine zAh ?_ GE347.out) | exact HB.out)) hb); clear BK347; clear HB; have BK347:=n0_; have HB:=n1_; clear n0_ n1_; (try clear hb); (try clear hb2); (try clear hk); (try clear hi); have hcz27_0 : w26.cell? ⟨gb347,0,none⟩ = some (.slice A0_0 l0_0.length c0_0):=(zAf BK347.out 0).trans rfl; have hcz27_1 : w26.cell? ⟨gb347,1,none⟩ = some (.int .i64 a0_1):=(zAf BK347.out 1).trans rfl; have hfz27_0:=zAe BK347.out 0; have hfz27_1:=zAe BK347.out 1; have p350 : 0 ≤ (a0_1 : Int):=of_decide_eq_true (by first | (with_reducible assumption) | assumption); have q350 : a0_1 < (l0_0.length : Int):=of_decide_eq_true (by first | (with_reducible assumption) | assumption); obtain ⟨ad350,A350_4,c350_4,e350,hx350_0,hx350_1,hx350_2,hx350_3,hx350_4,hl350_4,hi350_4⟩:=at_T24 HR0_0.out a0_1 p350 q350; cases e350; replace hx350_0:=(HB.out.cell (World.block_lt_of_cell? w _ hx350_0)).trans hx350_0; replace hx350_1:=(HB.out.cell (World.block_lt_of_cell? w _ hx350_1)).trans hx350_1; replace hx350_2:=(HB.out.cell (World.block_lt_of_cell? w _ hx350_2)).trans hx350_2; replace hx350_3:=(HB.out.cell (World.block_lt_of_cell? w _ hx350_3)).trans hx350_3; replace hx350_4:=(HB.out.cell (World.block_lt_of_cell? w _ hx350_4)).trans hx350_4; have HR350_4:=Aside0.mk hi350_4; have HC350_4:=Aside0.mk hl350_4; clear hi350_4 hl350_4; replace p350:=eq_true p350; replace q350:=eq_true q350))
      go_ret
      exact ⟨by first | rfl | (simp [zAo,zAn] <;> rfl) | (simp [*,zAo,zAn] <;> rfl),by repeat (first | (with_reducible first | exact HB.out | apply zAg | apply zAc | apply zAi | refine zAh ?_ GE347.out) | exact HB.out)⟩
    ·rw [if_neg c12] at H
     exact absurd H (by simp)
   ·rw [if_neg c11] at H
    exact absurd H (by simp)
 ·replace c3:=Bool.eq_false_iff.mpr c3
  subst c3
  have H1 : (some false) = some r:=by rw [if_neg (show ¬ (false = true) by decide)] at H; exact H
  clear H
  have H:=H1
  clear H1
  obtain rfl:=Option.some.inj H
  go_enter Try.func21,Try.ntmps21
  go_wp2_with (first | ((with_reducible refine zAM (N:=1) rfl ?_); refine zAL ?hg (N:=1) ?hd (cs:=#[.slice A0_0 l0_0.length c0_0,.int .i64 a0_1]) (t:=30) ?hr ?_; (case hd => rfl); (case hg => rfl); (case hr => first | (go_simp; done) | (go_simp; rfl)); intro gb347 hg w28 hbox hb; have n0_:=Aside0.mk (zAm (by repeat (first | (with_reducible first | exact HB.out | apply zAg | apply zAc | apply zAi) | exact HB.out)) hb); have n1_:=Aside0.mk (hbox); have n2_:=Aside0.mk ((by rw [hg]; exact (zAp (by repeat (first | (with_reducible first | exact HB.out | apply zAg | apply zAc | apply zAi) | exact HB.out))) : w.heap.size ≤ gb347)); have n3_:=Aside0.mk ((by rw [hg]; exact (zAp (by repeat (first | (with_reducible first | exact HB.out | apply zAg | apply zAc | apply zAi) | exact HB.out))) : w.heap.size ≤ gb347)); clear HB; have HB:=n0_; have BK347:=n1_; have GW347:=n2_; have GE347:=n3_; clear n0_ n1_ n2_ n3_; clear hb hbox hg; have hcz29_0 : w28.cell? ⟨gb347,0,none⟩ = some (.slice A0_0 l0_0.length c0_0):=(zAf BK347.out 0).trans rfl; have hcz29_1 : w28.cell? ⟨gb347,1,none⟩ = some (.int .i64 a0_1):=(zAf BK347.out 1).trans rfl; have hfz29_0:=zAe BK347.out 0; have hfz29_1:=zAe BK347.out 1) | ((with_reducible refine zAA (f:=20) rfl ?_); refine goesL_ (some 5) rfl rfl Try.func20 (by kernel_rfl) rfl #[.agg #[.slice A0_0 l0_0.length c0_0,.int .i64 a0_1]] rfl (by (try simp only [List.map_toArray,List.map_cons,List.map_nil]); first | done | rfl | (simp only [List.length_drop,List.length_take]; rfl)) ?_; (with_reducible refine (zAq.calls k _ _ l0_0 a0_1 false _ ?side1 ?side2 A2.out).mono ?_); (case side1 => repeat (first | exact (Kd.C_below HR0_0.out HB.out) | (with_reducible refine Kd.C_alloc ?_ _) | (with_reducible refine Kd.C_drewN ?_ _) | (with_reducible refine Kd.C_drew ?_))); (case side2 => exact HC0_0.out); rintro e w30 ⟨rfl,hb⟩; refine ⟨_,rfl,?_⟩; have n0_:=Aside0.mk (zAs (g:=gb347) (o:=.cells #[.slice A0_0 l0_0.length c0_0,.int .i64 a0_1] 30 (0,0)) (by (with_reducible repeat (first | apply zAb | apply zAd | apply zAa)); exact BK347.out) hb); have n1_:=Aside0.mk (zAm (by repeat (first | (with_reducible first | exact HB.out | apply zAg | apply zAc | apply zAi | refine zAh ?_ GE347.out) | exact HB.out)) hb); clear BK347; clear HB; have BK347:=n0_; have HB:=n1_; clear n0_ n1_; (try clear hb); (try clear hb2); (try clear hk); (try clear hi)))
  go_ret
  exact ⟨by first | rfl | (simp [zAo,zAn] <;> rfl) | (simp [*,zAo,zAn] <;> rfl),by repeat (first | (with_reducible first | exact HB.out | apply zAg | apply zAc | apply zAi | refine zAh ?_ GE347.out) | exact HB.out)⟩
theorem shaped_l1 (ns : List S24) (hF : Fit ns) (r : Int) (i : Nat) (hi : i < ns.length) (k n at_ : Int) (tx : ByteArray) (kl : List Int) (hk : ∀ x ∈ kl,0 ≤ x ∧ x < (ns.length : Int)) (hkl : kl.length ≤ 1000) (htx : tx.size ≤ 1000) (q : Bool) (h : Ev (fun N => zAw.l0 N ((i + 1 : Nat) : Int) ns r) q) : ∀ (e j : Nat),j + e = kl.length →
  Ev (fun N => zAw.l1 N (i : Int) (kindsOf ns (kl.take j)) (j : Int) ns r k n at_ tx kl) (okN ns ⟨k,n,at_,tx,kl⟩ && q)
 | 0,j,he => by
  rw [List.take_of_length_le (by omega)]
  obtain ⟨b1,hb1,e1⟩:=ref_texts k n at_ tx kl htx
  obtain ⟨b3,hb3,e3⟩:=ref_kids k (kindsOf ns kl) (by simpa [kindsOf] using hkl)
  have hb2:=ref_numbers k n at_ tx kl
  refine Ev.step (f:=fun N => (zAr.f N k n at_ tx kl).bind fun t344 => ((zAE.f N k n at_ tx kl).bind fun t345 => ((zAk.f N k (kindsOf ns kl)).bind fun t346 => (if k < 1 then (some false) else (if k > 27 then (some false) else (if t344 = true then (if t345 = true then (if t346 = true then (zAw.l0 N ((i + 1 : Nat) : Int) ns r) else (some false)) else (some false)) else (some false))))))) (fun N => by
   have hni:=hF.1
   simp only [zAw.l1]; rw [if_neg (by omega),wrapS i (by omega)]) ?_
  refine Ev.bind hb1 (Ev.bind hb2 (Ev.bind hb3 ?_))
  unfold okN nodeOk
  by_cases h1 : k < 1
  ·rw [show decide (1 ≤ k) = false from decide_eq_false (by omega)]
   exact ev_iff h1 (by simpa using Ev.now false)
  ·refine ev_ifn h1 ?_
   by_cases h2 : k > 27
   ·rw [show decide (k ≤ 27) = false from decide_eq_false (by omega)]
    exact ev_iff h2 (by simpa using Ev.now false)
   ·refine ev_ifn h2 ?_
    rw [decide_eq_true (show 1 ≤ k by omega),decide_eq_true (show k ≤ 27 by omega),← e1 (by omega) (by omega),← e3 (by omega) (by omega)]
    cases b1 with
    | false => simpa using Ev.now false
    | true =>
     cases numB k n with
     | false => simpa using Ev.now false
     | true =>
      cases b3 with
      | false => simpa using Ev.now false
      | true => simpa using h
 | e + 1,j,he => by
  have hj : j < kl.length:=by omega
  have hx:=hk kl[j] (List.getElem_mem hj)
  have ht : kindsOf ns (kl.take (j + 1)) = kindsOf ns (kl.take j) ++ [(rd_T24 ns kl[j]).f0]:=by
   unfold kindsOf; rw [zCu kl j hj,List.map_append]; rfl
  have H:=shaped_l1 ns hF r i hi k n at_ tx kl hk hkl htx q h e (j + 1) (by omega)
  rw [ht] at H
  refine Ev.step (fun N => ?_) H
  simp only [zAw.l1]
  rw [if_pos (by omega),if_pos (by omega),rdN kl j hj,if_pos hx.1,if_pos hx.2,if_pos (by simp [kindsOf]; omega),wrapS j (by omega)]
theorem shaped_l0 (ns : List S24) (hF : Fit ns) (r : Int) : ∀ (d i : Nat),i + d = ns.length → Ev (fun N => zAw.l0 N (i : Int) ns r) ((ns.drop i).all (okN ns))
 | 0,i,hd => by
  rw [List.drop_of_length_le (by omega)]
  show Ev _ true
  exact Ev.step (fun N => by simp only [zAw.l0]; rw [if_neg (by omega)]) (Ev.now true)
 | d + 1,i,hd => by
  have hi : i < ns.length:=by omega
  have hx:=hF.2 ns[i] (List.getElem_mem hi)
  rw [List.drop_eq_getElem_cons hi,List.all_cons]
  refine Ev.step (f:=fun N => zAw.l1 N (i : Int) (kindsOf ns (ns[i].f4.take 0)) ((0 : Nat) : Int) ns r ns[i].f0 ns[i].f1 ns[i].f2 ns[i].f3 ns[i].f4) (fun N => ?_) (shaped_l1 ns hF r i hi ns[i].f0 ns[i].f1 ns[i].f2 ns[i].f3 ns[i].f4 hx.1 hx.2.1 hx.2.2 _ (shaped_l0 ns hF r d (i + 1) (by omega)) ns[i].f4.length 0 (by omega))
  simp only [zAw.l0]
  rw [if_pos (by omega),if_pos (by omega),rdT24 ns i hi]
  rfl
theorem shaped_ev (ns : List S24) (hF : Fit ns) (r : Int) : Ev (fun N => zAw.f N ns r) (ns.all (okN ns)):=shaped_l0 ns hF r ns.length 0 (by omega)
theorem fit_flat (T : RT) (hT : T.size ≤ 4000) (hk : ∀ x ∈ RT.flat 0 T,x.f4.length ≤ 1000 ∧ x.f3.size ≤ 1000) : Fit (RT.flat 0 T):=by
 have hfl:=RT.flat_len 0 T
 refine ⟨by omega,fun x hx => ?_⟩
 refine ⟨fun k hkm => ?_,(hk x hx).1,(hk x hx).2⟩
 obtain ⟨i,hi,rfl⟩:=List.mem_iff_getElem.1 hx
 have:=zBW T i hi k hkm
 omega
theorem rright_no (ns : List S24) (hk : ∀ x ∈ ns,x.f4.length < 1000000) (r : Int) (h : zAJ.f ns r = some false) : Ev (fun k => zAW.f k ns r) false :=
 Ev.bind (zBp ns hk r false h) (ev_ifn (by simp) (Ev.now _))
theorem rright_yes (T : RT) (hT : T.size ≤ 4000) (hF : Fit (RT.flat 0 T)) : Ev (fun k => zAW.f k (RT.flat 0 T) ((T.size : Int) - 1)) (rightB (RT.flat 0 T) ((T.size : Int) - 1) (T.depth : Int)):=by
 have hfl:=RT.flat_len 0 T
 have hp:=RT.size_pos T
 refine Ev.bind (zBp (RT.flat 0 T) (fun x hx => by have:=zBu T hT x hx; omega) _ true (zBq T hT)) (ev_iff rfl (Ev.bind (rdepth_ev T hT) ?_))
 unfold rightB
 by_cases h1 : (T.depth : Int) > 40
 ·rw [decide_eq_true h1]
  exact ev_iff h1 (by simpa using Ev.now false)
 ·rw [decide_eq_false h1]
  refine ev_ifn h1 (ev_iff (by omega) (ev_iff (by omega) ?_))
  by_cases h2 : (rd_T24 (RT.flat 0 T) ((T.size : Int) - 1)).f0 = 1
  ·refine ev_iff h2 ?_
   rw [h2]
   simpa using Ev.bind (f:=fun k t => some t) (shaped_ev (RT.flat 0 T) hF ((T.size : Int) - 1)) (Ev.now _)
  ·refine ev_ifn h2 ?_
   rw [show ((rd_T24 (RT.flat 0 T) ((T.size : Int) - 1)).f0 == 1) = false from by simp [h2]]
   simpa using Ev.now false
end Go.Proofs.Ytpggidmpkhmijaa.P
