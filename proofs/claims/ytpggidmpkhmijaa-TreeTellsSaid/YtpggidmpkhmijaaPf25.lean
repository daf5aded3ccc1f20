import Derived.Test.YtpggidmpkhmijaaRose
import Derived.Test.YtpggidmpkhmijaaPf20
set_option linter.unusedVariables false
set_option linter.unusedSimpArgs false
namespace Go.Proofs.Ytpggidmpkhmijaa.P
open Go.RowKit Go.Proofs.YtpggidmpkhmijaaW.PrintWords Go.Proofs.YtpggidmpkhmijaaW.PrintLast Go.Proofs.YtpggidmpkhmijaaW.PrintMore
attribute [local go_sem] zBa zAY max_two min_two zAR zAT zAZ zAX
mutual
def zAx.j0 : Nat → Int → Bool → List (S24) → Int → Option ((List (S24)) × Int)
 | 0,_,_,_,_ => none
 | k + 1,x1,x26,x363000,x363001 => if x26 = true then (some (([] : List (S24)),0)) else ((zAt.f k x363000 x1).bind fun t365 => (zAx.l0 k x1 t365 ([] : List (S24)) t365 x363000 x363001))
def zAx.l0 : Nat → Int → Int → List (S24) → Int → List (S24) → Int → Option ((List (S24)) × Int)
 | 0,_,_,_,_,_,_ => none
 | k + 1,x1,x6,x7,x8,x363000,x363001 => if x8 ≤ x1 then (if 0 ≤ x8 then (if x8 < (x363000.length : Int) then (zAx.l1 k x1 x6 x7 x8 ([] : List Int) 0 x363000 x363001 ((rd_T24 x363000 x8).f0) ((rd_T24 x363000 x8).f1) ((rd_T24 x363000 x8).f2) ((rd_T24 x363000 x8).f3) ((rd_T24 x363000 x8).f4)) else (none)) else (none)) else (some (x7,wrap64 (x1 - x6)))
def zAx.l1 : Nat → Int → Int → List (S24) → Int → List Int → Int → List (S24) → Int → Int → Int → Int → ByteArray → List Int → Option ((List (S24)) × Int)
 | 0,_,_,_,_,_,_,_,_,_,_,_,_,_ => none
 | k + 1,x1,x6,x7,x8,x10,x11,x363000,x363001,x368000,x368001,x368002,x368003,x368004 => if x11 < (x368004.length : Int) then (if 0 ≤ x11 then (if x10.length < 17592186044416 then (zAx.l1 k x1 x6 x7 x8 (x10 ++ [wrap64 ((rd x368004 x11) - x6)]) (wrap64 (x11 + 1)) x363000 x363001 x368000 x368001 x368002 x368003 x368004) else (none)) else (none)) else (if x7.length < 2199023255552 then (zAx.l0 k x1 x6 (x7 ++ [(⟨x368000,x368001,x368002,x368003,x10⟩ : S24)]) (wrap64 (x8 + 1)) x363000 x363001) else (none))
end
def zAx.f (k : Nat) (l0_0 : List (S24)) (a0_1 : Int) (a1 : Int) : Option ((List (S24)) × Int):=(zAq.f k l0_0 a0_1).bind fun t364 => (if t364 = true then (if a1 < 0 then (zAx.j0 k a1 true l0_0 a0_1) else (zAx.j0 k a1 (decide (a1 ≥ (l0_0.length : Int))) l0_0 a0_1)) else (zAx.j0 k a1 true l0_0 a0_1))
set_option maxHeartbeats 8000000 in
set_option maxRecDepth 100000 in
theorem zAx.calls (k : Nat) (A0_0 : Option Addr) (c0_0 : Nat) (l0_0 : List (S24)) (a0_1 : Int) (a1 : Int) (r1 : List (S24)) (r2 : Int) (w : World) (hr0_0 : Kd.C k24 w A0_0 l0_0.length l0_0) (hc0_0 : l0_0.length ≤ c0_0) (h : zAx.f k l0_0 a0_1 a1 = some (r1,r2)) :
  Calls Try.prog 25 #[.agg #[.slice A0_0 l0_0.length c0_0,.int .i64 a0_1],.int .i64 a1] w fun e w' => ∃ v0_ : Value,e = .returned (.agg #[v0_,.int .i64 r2]) ∧ Kd.S k24 24 w' w.heap.size (fun _ => True) v0_ r1 ∧ Below w.heap.size w w':=by
 have hu30:=Try.underlying30
 have hu24:=Try.underlying24
 have HR0_0:=Aside0.mk hr0_0
 have HC0_0:=Aside0.mk hc0_0
 clear hr0_0 hc0_0
 have HB:=Aside0.mk (Below.refl w.heap.size w)
 have H : ((zAq.f k l0_0 a0_1).bind fun t364 => (if t364 = true then (if a1 < 0 then (zAx.j0 k a1 true l0_0 a0_1) else (zAx.j0 k a1 (decide (a1 ≥ (l0_0.length : Int))) l0_0 a0_1)) else (zAx.j0 k a1 true l0_0 a0_1))) = some (r1,r2):=h
 clear h
 replace H:=Option.bind_eq_some_iff.mp H
 obtain ⟨t364,A30,H⟩:=H
 replace H : (if t364 = true then (if a1 < 0 then (zAx.j0 k a1 true l0_0 a0_1) else (zAx.j0 k a1 (decide (a1 ≥ (l0_0.length : Int))) l0_0 a0_1)) else (zAx.j0 k a1 true l0_0 a0_1)) = some (r1,r2):=H
 have A3:=Aside0.mk A30
 clear A30
 have HC4:=Aside0.mk H
 clear H
 go_enter Try.func25,Try.ntmps25
 go_upto_region 2 with (first | ((with_reducible refine zAM (N:=2) rfl ?_); (try (refine zBk (by rfl) ?_; dsimp only)); refine zAL ?hg (N:=2) ?hd (cs:=#[.slice A0_0 l0_0.length c0_0,.int .i64 a0_1]) (t:=30) ?hr ?_; (case hd => rfl); (case hg => rfl); (case hr => first | (go_simp; done) | (go_simp; rfl)); intro gb362 hg w5 hbox hb; have n0_:=Aside0.mk (zAm (by repeat (first | (with_reducible first | exact HB.out | apply zAg | apply zAc | apply zAi) | exact HB.out)) hb); have n1_:=Aside0.mk (hbox); have n2_:=Aside0.mk ((by rw [hg]; exact (zAp (by repeat (first | (with_reducible first | exact HB.out | apply zAg | apply zAc | apply zAi) | exact HB.out))) : w.heap.size ≤ gb362)); have n3_:=Aside0.mk ((by rw [hg]; exact (zAp (by repeat (first | (with_reducible first | exact HB.out | apply zAg | apply zAc | apply zAi) | exact HB.out))) : w.heap.size ≤ gb362)); clear HB; have HB:=n0_; have BK362:=n1_; have GW362:=n2_; have GE362:=n3_; clear n0_ n1_ n2_ n3_; clear hb hbox hg) | ((with_reducible refine zAM (N:=4) rfl ?_); (try (refine zBk (by rfl) ?_; dsimp only)); refine zAL ?hg (N:=4) ?hd (cs:=#[.slice none 0 0,.int .i64 0]) (t:=30) ?hr ?_; (case hd => rfl); (case hg => rfl); (case hr => first | (go_simp; done) | (go_simp; rfl)); intro gb363 hg w6 hbox hb; have n0_:=Aside0.mk (zAs (g:=gb362) (o:=.cells #[.slice A0_0 l0_0.length c0_0,.int .i64 a0_1] 30 (0,0)) (by (with_reducible repeat (first | apply zAb | apply zAd | apply zAa)); exact BK362.out) hb); have n1_:=Aside0.mk (zAm (by repeat (first | (with_reducible first | exact HB.out | apply zAg | apply zAc | apply zAi | refine zAh ?_ GE362.out) | exact HB.out)) hb); have n2_:=Aside0.mk (hbox); have n3_:=Aside0.mk ((by rw [hg]; exact (zAp (by repeat (first | (with_reducible first | exact HB.out | apply zAg | apply zAc | apply zAi | refine zAh ?_ GE362.out) | exact HB.out))) : w.heap.size ≤ gb363)); have n4_:=Aside0.mk ((by rw [hg]; exact (zAp (by repeat (first | (with_reducible first | exact HB.out | apply zAg | apply zAc | apply zAi | refine zAh ?_ GE362.out) | exact HB.out))) : w.heap.size ≤ gb363)); have n5_:=Aside0.mk ((by rw [hg]; exact Nat.ne_of_lt (blk_lt (g:=gb362) (o:=.cells #[.slice A0_0 l0_0.length c0_0,.int .i64 a0_1] 30 (0,0)) (by (with_reducible repeat (first | apply zAb | apply zAd | apply zAa)); exact BK362.out)) : gb362 ≠ gb363)); have n6_:=Aside0.mk ((by rw [hg]; exact Nat.ne_of_gt (blk_lt (g:=gb362) (o:=.cells #[.slice A0_0 l0_0.length c0_0,.int .i64 a0_1] 30 (0,0)) (by (with_reducible repeat (first | apply zAb | apply zAd | apply zAa)); exact BK362.out)) : gb363 ≠ gb362)); clear BK362; clear HB; have BK362:=n0_; have HB:=n1_; have BK363:=n2_; have GW363:=n3_; have GE363:=n4_; have NB362_363:=n5_; have NB363_362:=n6_; clear n0_ n1_ n2_ n3_ n4_ n5_ n6_; clear hb hbox hg; have hnb7:=NB362_363.out; have hnc7:=NB363_362.out; have hcz8_0 : w6.cell? ⟨gb362,0,none⟩ = some (.slice A0_0 l0_0.length c0_0):=(zAf BK362.out 0).trans rfl; have hcz8_1 : w6.cell? ⟨gb362,1,none⟩ = some (.int .i64 a0_1):=(zAf BK362.out 1).trans rfl; have hfz8_0:=zAe BK362.out 0; have hfz8_1:=zAe BK362.out 1) | ((with_reducible refine zAA (f:=20) rfl ?_); refine goesL_ (some 13) rfl rfl Try.func20 (by kernel_rfl) rfl #[.agg #[.slice A0_0 l0_0.length c0_0,.int .i64 a0_1]] rfl (by (try simp only [List.map_toArray,List.map_cons,List.map_nil]); first | done | rfl | (simp only [List.length_drop,List.length_take]; rfl)) ?_; (with_reducible refine (zAq.calls k _ _ l0_0 a0_1 t364 _ ?side1 ?side2 A3.out).mono ?_); (case side1 => repeat (first | exact (Kd.C_below HR0_0.out HB.out) | (with_reducible refine Kd.C_alloc ?_ _) | (with_reducible refine Kd.C_drewN ?_ _) | (with_reducible refine Kd.C_drew ?_))); (case side2 => exact HC0_0.out); rintro e w9 ⟨rfl,hb⟩; refine ⟨_,rfl,?_⟩; have n0_:=Aside0.mk (zAs (g:=gb362) (o:=.cells #[.slice A0_0 l0_0.length c0_0,.int .i64 a0_1] 30 (0,0)) (by (with_reducible repeat (first | apply zAb | apply zAd | apply zAa)); exact BK362.out) hb); have n1_:=Aside0.mk (zAs (g:=gb363) (o:=.cells #[.slice none 0 0,.int .i64 0] 30 (0,0)) (by (with_reducible repeat (first | apply zAb | apply zAd | apply zAa)); exact BK363.out) hb); have n2_:=Aside0.mk (zAm (by repeat (first | (with_reducible first | exact HB.out | apply zAg | apply zAc | apply zAi | refine zAh ?_ GE362.out | refine zAh ?_ GE363.out) | exact HB.out)) hb); clear BK362; clear BK363; clear HB; have BK362:=n0_; have BK363:=n1_; have HB:=n2_; clear n0_ n1_ n2_; (try clear hb); (try clear hb2); (try clear hk); (try clear hi)))
 (try simp only [Act.put,List.setIfInBounds_toArray,List.set_cons_zero,List.set_cons_succ])
 go_cut [26] (fun v26 wc => ∃ (kq : Nat) (x26_3 : Bool),v26 = .bool x26_3 ∧ Aside0 (zAx.j0 kq a1 x26_3 l0_0 a0_1 = some (r1,r2)) ∧ Aside0 (kq ≤ k) ∧ Aside0 (wc.heap[gb362]? = some (.cells #[(.slice A0_0 l0_0.length c0_0),.int .i64 a0_1] 30 (0,0))) ∧ Aside0 (wc.heap[gb363]? = some (.cells #[(.slice none 0 0),.int .i64 0] 30 (0,0))) ∧ Aside0 (Below w.heap.size w wc))
 case first =>
  have H:=HC4.out
  clear HC4
  by_cases c10 : t364 = true
  ·subst c10
   have H1 : (if a1 < 0 then (zAx.j0 k a1 true l0_0 a0_1) else (zAx.j0 k a1 (decide (a1 ≥ (l0_0.length : Int))) l0_0 a0_1)) = some (r1,r2):=by rw [if_pos rfl] at H; exact H
   clear H
   have H:=H1
   clear H1
   by_cases c11 : a1 < 0
   ·rw [if_pos c11] at H
    have c11b0 : decide (a1 < 0) = true:=decide_eq_true c11
    clear c11
    (first | rw [c11b0] | (simp only [i64_w,i32_w]; rw [c11b0]) | skip)
    have H':=Aside0.mk H
    clear H
    go_wp2
    go_meet
    case rel => exact ⟨_,(true),(by first | rfl | (simp; done) | (simp [*]; done)),H',⟨by first | omega | exact Nat.le_refl _⟩,⟨by (with_reducible repeat (first | apply zAb | apply zAd | apply zAa)); exact BK362.out⟩,⟨by (with_reducible repeat (first | apply zAb | apply zAd | apply zAa)); exact BK363.out⟩,⟨by repeat (first | (with_reducible first | exact HB.out | apply zAg | apply zAc | apply zAi | refine zAh ?_ GE362.out | refine zAh ?_ GE363.out) | exact HB.out)⟩⟩
   ·rw [if_neg c11] at H
    have c11b0 : decide (a1 < 0) = false:=decide_eq_false c11
    clear c11
    (first | rw [c11b0] | (simp only [i64_w,i32_w]; rw [c11b0]) | skip)
    have H':=Aside0.mk H
    clear H
    have hnb12:=NB362_363.out
    have hnc12:=NB363_362.out
    have hcz13_0 : w9.cell? ⟨gb362,0,none⟩ = some (.slice A0_0 l0_0.length c0_0):=(zAf BK362.out 0).trans rfl
    have hcz13_1 : w9.cell? ⟨gb362,1,none⟩ = some (.int .i64 a0_1):=(zAf BK362.out 1).trans rfl
    have hfz13_0:=zAe BK362.out 0
    have hfz13_1:=zAe BK362.out 1
    go_wp2
    go_meet
    case rel => exact ⟨_,(decide (a1 ≥ (l0_0.length : Int))),(by first | rfl | (simp; done) | (simp [*]; done)),H',⟨by first | omega | exact Nat.le_refl _⟩,⟨by (with_reducible repeat (first | apply zAb | apply zAd | apply zAa)); exact BK362.out⟩,⟨by (with_reducible repeat (first | apply zAb | apply zAd | apply zAa)); exact BK363.out⟩,⟨by repeat (first | (with_reducible first | exact HB.out | apply zAg | apply zAc | apply zAi | refine zAh ?_ GE362.out | refine zAh ?_ GE363.out) | exact HB.out)⟩⟩
  ·replace c10:=Bool.eq_false_iff.mpr c10
   subst c10
   have H1 : (zAx.j0 k a1 true l0_0 a0_1) = some (r1,r2):=by rw [if_neg (show ¬ (false = true) by decide)] at H; exact H
   clear H
   have H:=H1
   clear H1
   have H':=Aside0.mk H
   clear H
   go_wp2
   go_meet
   case rel => exact ⟨_,(true),(by first | rfl | (simp; done) | (simp [*]; done)),H',⟨by first | omega | exact Nat.le_refl _⟩,⟨by (with_reducible repeat (first | apply zAb | apply zAd | apply zAa)); exact BK362.out⟩,⟨by (with_reducible repeat (first | apply zAb | apply zAd | apply zAa)); exact BK363.out⟩,⟨by repeat (first | (with_reducible first | exact HB.out | apply zAg | apply zAc | apply zAi | refine zAh ?_ GE362.out | refine zAh ?_ GE363.out) | exact HB.out)⟩⟩
 case rest =>
  clear HC4
  try clear c1
  try clear c2
  try clear p2
  try clear c7
  try clear c10
  try clear c11
  try clear c11b0
  try clear c12
  try clear hcz13_0
  try clear hcz13_1
  try clear hcz8_0
  try clear hcz8_1
  try clear hfz13_0
  try clear hfz13_1
  try clear hfz8_0
  try clear hfz8_1
  obtain ⟨kq,x26_3,rfl,HA,HJ3,BK362,BK363,HB⟩:=hcut
  cases kq with
  | zero => exact absurd HA.out (by simp [zAx.j0])
  | succ kj3 =>
   have H:=HA.out
   clear HA
   simp only [zAx.j0] at H
   by_cases c14 : x26_3 = true
   ·subst c14
    have H1 : (some (([] : List (S24)),0)) = some (r1,r2):=by rw [if_pos rfl] at H; exact H
    clear H
    have H:=H1
    clear H1
    simp only [Option.some.injEq,Prod.mk.injEq] at H
    obtain ⟨rfl,rfl⟩:=H
    have hnb15:=NB363_362.out
    have hnc15:=NB362_363.out
    have hcz16_0 : wc.cell? ⟨gb363,0,none⟩ = some (.slice none 0 0):=(zAf BK363.out 0).trans rfl
    have hcz16_1 : wc.cell? ⟨gb363,1,none⟩ = some (.int .i64 0):=(zAf BK363.out 1).trans rfl
    have hfz16_0:=zAe BK363.out 0
    have hfz16_1:=zAe BK363.out 1
    go_wp2
    refine bodyPost_ret (results_cell_row rfl _ _ gb363 30 #[.slice none 0 0,.int .i64 0] (0,0) _ rfl (by (with_reducible repeat (first | apply zAb | apply zAd | apply zAa)); refine blk_put (cs:=#[.slice none 0 0,.int .i64 0]) ?_ 1 _ rfl; (with_reducible repeat (first | apply zAb | apply zAd | apply zAa)); refine blk_put (cs:=#[.slice none 0 0,.int .i64 0]) ?_ 0 _ rfl; (with_reducible repeat (first | apply zAb | apply zAd | apply zAa)); exact BK363.out) Try.underlying30 rfl (by kernel_rfl)) rfl ?_
    exact ⟨_,by first | rfl | (simp [zAo,zAn] <;> rfl) | (simp [*,zAo,zAn] <;> rfl),by first | exact Kd.S_nil _ _ _ _ _ | exact Kd.N_nil _ _ _ _ _ | exact Kd.V_nil _ _ _ _ _ | exact Kd.Q_nil _ _ _ _ _ | exact Kd.R_nil _ _ _ _ _,by repeat (first | (with_reducible first | exact HB.out | apply zAg | apply zAc | apply zAi | refine zAh ?_ GE362.out | refine zAh ?_ GE363.out) | exact HB.out)⟩
   ·replace c14:=Bool.eq_false_iff.mpr c14
    subst c14
    have H1 : ((zAt.f kj3 l0_0 a1).bind fun t365 => (zAx.l0 kj3 a1 t365 ([] : List (S24)) t365 l0_0 a0_1)) = some (r1,r2):=by rw [if_neg (show ¬ (false = true) by decide)] at H; exact H
    clear H
    have H:=H1
    clear H1
    replace H:=Option.bind_eq_some_iff.mp H
    obtain ⟨t365,A170,H⟩:=H
    replace H : (zAx.l0 kj3 a1 t365 ([] : List (S24)) t365 l0_0 a0_1) = some (r1,r2):=H
    have A17:=Aside0.mk A170
    clear A170
    have H':=Aside0.mk H
    clear H
    have hnb18:=NB362_363.out
    have hnc18:=NB363_362.out
    have hcz19_0 : wc.cell? ⟨gb362,0,none⟩ = some (.slice A0_0 l0_0.length c0_0):=(zAf BK362.out 0).trans rfl
    have hcz19_1 : wc.cell? ⟨gb362,1,none⟩ = some (.int .i64 a0_1):=(zAf BK362.out 1).trans rfl
    have hfz19_0:=zAe BK362.out 0
    have hfz19_1:=zAe BK362.out 1
    go_wp2_with (first | ((with_reducible refine zAA (f:=34) rfl ?_); refine goesL_ (some 31) rfl rfl Try.func34 (by kernel_rfl) rfl #[.slice A0_0 l0_0.length c0_0,.int .i64 a1] rfl (by (try simp only [List.map_toArray,List.map_cons,List.map_nil]); first | done | rfl | (simp only [List.length_drop,List.length_take]; rfl)) ?_; (with_reducible refine (zAt.calls kj3 _ _ l0_0 a1 t365 _ ?side1 ?side2 A17.out).mono ?_); (case side1 => repeat (first | exact (Kd.C_below HR0_0.out HB.out) | (with_reducible refine Kd.C_alloc ?_ _) | (with_reducible refine Kd.C_drewN ?_ _) | (with_reducible refine Kd.C_drew ?_))); (case side2 => exact HC0_0.out); rintro e w' ⟨rfl,⟨nd,rfl⟩⟩; refine ⟨_,rfl,?_⟩))
    go_loopg [7,8] kj3 (fun kq v7 v8 w' => ∃ (x7_2 : List (S24)) (x8_2 : Int),v8 = .int .i64 x8_2 ∧ Aside0 (zAx.l0 kq a1 t365 x7_2 x8_2 l0_0 a0_1 = some (r1,r2)) ∧ Aside0 (kq ≤ kj3) ∧ Aside0 (Kd.S k24 24 w' w.heap.size (fun _ => True) v7 x7_2) ∧ Aside0 (w'.heap[gb362]? = some (.cells #[(.slice A0_0 l0_0.length c0_0),.int .i64 a0_1] 30 (0,0))) ∧ Aside0 (w'.heap[gb363]? = some (.cells #[(.slice none 0 0),.int .i64 0] 30 (0,0))) ∧ Aside0 (Below w.heap.size w w'))
    case atStart => exact ⟨(([] : List (S24))),(t365),(by first | rfl | (simp; done) | (simp [*]; done)),H',⟨Nat.le_refl _⟩,⟨by first | exact Kd.S_nil _ _ _ _ _ | exact Kd.N_nil _ _ _ _ _ | exact Kd.V_nil _ _ _ _ _ | exact Kd.Q_nil _ _ _ _ _ | exact Kd.R_nil _ _ _ _ _⟩,⟨by (with_reducible repeat (first | apply zAb | apply zAd | apply zAa)); exact BK362.out⟩,⟨by (with_reducible repeat (first | apply zAb | apply zAd | apply zAa)); exact BK363.out⟩,⟨by repeat (first | (with_reducible first | exact HB.out | apply zAg | apply zAc | apply zAi | refine zAh ?_ GE362.out | refine zAh ?_ GE363.out) | exact HB.out)⟩⟩
    case round =>
     clear H'
     try clear c1
     try clear c2
     try clear p2
     try clear c3
     try clear c7
     try clear c10
     try clear c11
     try clear c11b0
     try clear c12
     try clear c14
     try clear c15
     try clear c18
     try clear hcz13_0
     try clear hcz13_1
     try clear hcz16_0
     try clear hcz16_1
     try clear hcz19_0
     try clear hcz19_1
     try clear hcz8_0
     try clear hcz8_1
     try clear hfz13_0
     try clear hfz13_1
     try clear hfz16_0
     try clear hfz16_1
     try clear hfz19_0
     try clear hfz19_1
     try clear hfz8_0
     try clear hfz8_1
     try clear p2
     obtain ⟨x7_2,x8_2,rfl,HA,HK2,HO_7,BK362,BK363,HB⟩:=hrel
     cases gk with
     | zero => exact absurd HA.out (by simp [zAx.l0])
     | succ k2 =>
      have H:=HA.out
      clear HA
      simp only [zAx.l0] at H
      by_cases c20 : x8_2 ≤ a1
      ·rw [if_pos c20] at H
       have c20b0 : decide (x8_2 ≤ a1) = true:=decide_eq_true c20
       clear c20
       by_cases c21 : 0 ≤ x8_2
       ·rw [if_pos c21] at H
        have c21b0 : decide (0 ≤ x8_2) = true:=decide_eq_true c21
        clear c21
        by_cases c22 : x8_2 < (l0_0.length : Int)
        ·rw [if_pos c22] at H
         have c22b0 : decide (x8_2 < (l0_0.length : Int)) = true:=decide_eq_true c22
         clear c22
         have H':=Aside0.mk H
         clear H
         have hnb23:=NB362_363.out
         have hnc23:=NB363_362.out
         have hcz24_0 : wr.cell? ⟨gb362,0,none⟩ = some (.slice A0_0 l0_0.length c0_0):=(zAf BK362.out 0).trans rfl
         have hcz24_1 : wr.cell? ⟨gb362,1,none⟩ = some (.int .i64 a0_1):=(zAf BK362.out 1).trans rfl
         have hfz24_0:=zAe BK362.out 0
         have hfz24_1:=zAe BK362.out 1
         have p366 : 0 ≤ (x8_2 : Int):=of_decide_eq_true (by first | (with_reducible assumption) | assumption)
         have q366 : x8_2 < (l0_0.length : Int):=of_decide_eq_true (by first | (with_reducible assumption) | assumption)
         obtain ⟨ad366,A366_4,c366_4,e366,hx366_0,hx366_1,hx366_2,hx366_3,hx366_4,hl366_4,hi366_4⟩:=at_T24 HR0_0.out x8_2 p366 q366
         cases e366
         replace hx366_0:=(HB.out.cell (World.block_lt_of_cell? w _ hx366_0)).trans hx366_0
         replace hx366_1:=(HB.out.cell (World.block_lt_of_cell? w _ hx366_1)).trans hx366_1
         replace hx366_2:=(HB.out.cell (World.block_lt_of_cell? w _ hx366_2)).trans hx366_2
         replace hx366_3:=(HB.out.cell (World.block_lt_of_cell? w _ hx366_3)).trans hx366_3
         replace hx366_4:=(HB.out.cell (World.block_lt_of_cell? w _ hx366_4)).trans hx366_4
         have HR366_4:=Aside0.mk hi366_4
         have HC366_4:=Aside0.mk hl366_4
         clear hi366_4 hl366_4
         replace p366:=eq_true p366
         replace q366:=eq_true q366
         go_wp2_with (first | ((with_reducible refine zAM (N:=9) rfl ?_); (try (refine zBk (by rfl) ?_; dsimp only)); refine zAL ?hg (N:=9) ?hd (cs:=#[.int .i64 0,.int .i64 0,.int .i64 0,.string (⟨#[]⟩ : ByteArray),.slice none 0 0]) (t:=24) ?hr ?_; (case hd => rfl); (case hg => rfl); (case hr => first | (go_simp; done) | (go_simp; rfl)); intro gb367 hg w25 hbox hb; have n0_:=Aside0.mk (Kd.S_below (Kd.zCB (by (with_reducible repeat (first | apply Kd.S_alloc | apply Kd.S_drewN | apply Kd.S_drew)); exact HO_7.out) gb367 (Nat.le_of_eq hg.symm)) hb); have n1_:=Aside0.mk (zAs (g:=gb362) (o:=.cells #[.slice (some ad366) l0_0.length c0_0,.int .i64 a0_1] 30 (0,0)) (by (with_reducible repeat (first | apply zAb | apply zAd | apply zAa)); exact BK362.out) hb); have n2_:=Aside0.mk (zAs (g:=gb363) (o:=.cells #[.slice none 0 0,.int .i64 0] 30 (0,0)) (by (with_reducible repeat (first | apply zAb | apply zAd | apply zAa)); exact BK363.out) hb); have n3_:=Aside0.mk (zAm (by repeat (first | (with_reducible first | exact HB.out | apply zAg | apply zAc | apply zAi | refine zAh ?_ GE362.out | refine zAh ?_ GE363.out) | exact HB.out)) hb); have n4_:=Aside0.mk (hbox); have n5_:=Aside0.mk ((by rw [hg]; exact (zAp (by repeat (first | (with_reducible first | exact HB.out | apply zAg | apply zAc | apply zAi | refine zAh ?_ GE362.out | refine zAh ?_ GE363.out) | exact HB.out))) : w.heap.size ≤ gb367)); have n6_:=Aside0.mk ((by rw [hg]; exact (zAp (by repeat (first | (with_reducible first | exact HB.out | apply zAg | apply zAc | apply zAi | refine zAh ?_ GE362.out | refine zAh ?_ GE363.out) | exact HB.out))) : w.heap.size ≤ gb367)); have n7_:=Aside0.mk ((by rw [hg]; exact Nat.ne_of_lt (blk_lt (g:=gb362) (o:=.cells #[.slice (some ad366) l0_0.length c0_0,.int .i64 a0_1] 30 (0,0)) (by (with_reducible repeat (first | apply zAb | apply zAd | apply zAa)); exact BK362.out)) : gb362 ≠ gb367)); have n8_:=Aside0.mk ((by rw [hg]; exact Nat.ne_of_gt (blk_lt (g:=gb362) (o:=.cells #[.slice (some ad366) l0_0.length c0_0,.int .i64 a0_1] 30 (0,0)) (by (with_reducible repeat (first | apply zAb | apply zAd | apply zAa)); exact BK362.out)) : gb367 ≠ gb362)); have n9_:=Aside0.mk ((by rw [hg]; exact Nat.ne_of_lt (blk_lt (g:=gb363) (o:=.cells #[.slice none 0 0,.int .i64 0] 30 (0,0)) (by (with_reducible repeat (first | apply zAb | apply zAd | apply zAa)); exact BK363.out)) : gb363 ≠ gb367)); have n10_:=Aside0.mk ((by rw [hg]; exact Nat.ne_of_gt (blk_lt (g:=gb363) (o:=.cells #[.slice none 0 0,.int .i64 0] 30 (0,0)) (by (with_reducible repeat (first | apply zAb | apply zAd | apply zAa)); exact BK363.out)) : gb367 ≠ gb363)); clear HO_7; clear BK362; clear BK363; clear HB; have HO_7:=n0_; have BK362:=n1_; have BK363:=n2_; have HB:=n3_; have BK367:=n4_; have GW367:=n5_; have GE367:=n6_; have NB362_367:=n7_; have NB367_362:=n8_; have NB363_367:=n9_; have NB367_363:=n10_; clear n0_ n1_ n2_ n3_ n4_ n5_ n6_ n7_ n8_ n9_ n10_; clear hb hbox hg; have hnb26:=NB367_362.out; have hnc26:=NB362_367.out; have hnb27:=NB367_363.out; have hnc27:=NB363_367.out; have hcz28_0 : w25.cell? ⟨gb367,0,none⟩ = some (.int .i64 0):=(zAf BK367.out 0).trans rfl; have hcz28_1 : w25.cell? ⟨gb367,1,none⟩ = some (.int .i64 0):=(zAf BK367.out 1).trans rfl; have hcz28_2 : w25.cell? ⟨gb367,2,none⟩ = some (.int .i64 0):=(zAf BK367.out 2).trans rfl; have hcz28_3 : w25.cell? ⟨gb367,3,none⟩ = some (.string (⟨#[]⟩ : ByteArray)):=(zAf BK367.out 3).trans rfl; have hcz28_4 : w25.cell? ⟨gb367,4,none⟩ = some (.slice none 0 0):=(zAf BK367.out 4).trans rfl; have hfz28_0:=zAe BK367.out 0; have hfz28_1:=zAe BK367.out 1; have hfz28_2:=zAe BK367.out 2; have hfz28_3:=zAe BK367.out 3; have hfz28_4:=zAe BK367.out 4))
         go_loopg [10,11] k2 (fun kq v10 v11 w' => ∃ (x10_3 : List Int) (x11_3 : Int),v11 = .int .i64 x11_3 ∧ Aside0 (zAx.l1 kq a1 t365 x7_2 x8_2 x10_3 x11_3 l0_0 a0_1 ((rd_T24 l0_0 x8_2).f0) ((rd_T24 l0_0 x8_2).f1) ((rd_T24 l0_0 x8_2).f2) ((rd_T24 l0_0 x8_2).f3) ((rd_T24 l0_0 x8_2).f4) = some (r1,r2)) ∧ Aside0 (kq ≤ k2) ∧ Aside0 (Kd.S k24 24 w' w.heap.size (fun k_ => some k_ ≠ (v10 : Value).ownBlock ∧ k_ ≠ gb367) u7 x7_2) ∧ Aside0 (Kd.R (Kd.int .i64) 3 w' w.heap.size (fun _ => True) v10 x10_3) ∧ Aside0 (w'.heap[gb362]? = some (.cells #[(.slice (some ad366) l0_0.length c0_0),.int .i64 a0_1] 30 (0,0))) ∧ Aside0 (w'.heap[gb363]? = some (.cells #[(.slice none 0 0),.int .i64 0] 30 (0,0))) ∧ Aside0 (w'.heap[gb367]? = some (.cells #[.int .i64 ((rd_T24 l0_0 x8_2).f0),.int .i64 ((rd_T24 l0_0 x8_2).f1),.int .i64 ((rd_T24 l0_0 x8_2).f2),.string ((rd_T24 l0_0 x8_2).f3),(.slice A366_4 ((rd_T24 l0_0 x8_2).f4).length c366_4)] 24 (0,0))) ∧ Aside0 (Below w.heap.size w w'))
         case atStart => exact ⟨(([] : List Int)),(0),(by first | rfl | (simp; done) | (simp [*]; done)),H',⟨Nat.le_refl _⟩,⟨by (with_reducible repeat (first | apply Kd.S_alloc | apply Kd.S_drewN | apply Kd.S_drew)); exact Kd.S_mono (Kd.S_far (p:=⟨gb367,4,none⟩) (Kd.S_far (p:=⟨gb367,3,none⟩) (Kd.S_far (p:=⟨gb367,2,none⟩) (Kd.S_far (p:=⟨gb367,1,none⟩) (Kd.S_far (p:=⟨gb367,0,none⟩) (Kd.S_mono HO_7.out (fun k_ hk => (⟨hk,hk.2⟩ : _ ∧ k_ ≠ gb367))) (fun _ hk => hk.2) (.int .i64 ((rd_T24 l0_0 x8_2).f0))) (fun _ hk => hk.2) (.int .i64 ((rd_T24 l0_0 x8_2).f1))) (fun _ hk => hk.2) (.int .i64 ((rd_T24 l0_0 x8_2).f2))) (fun _ hk => hk.2) (.string ((rd_T24 l0_0 x8_2).f3))) (fun _ hk => hk.2) (.slice A366_4 ((rd_T24 l0_0 x8_2).f4).length c366_4)) (fun _ hk => ⟨(by simp [Value.ownBlock]),hk.1.2⟩)⟩,⟨by first | exact Kd.R_nil _ _ _ _ _ | exact Kd.N_nil _ _ _ _ _ | exact Kd.V_nil _ _ _ _ _ | exact Kd.Q_nil _ _ _ _ _ | exact Kd.S_nil _ _ _ _ _⟩,⟨by (with_reducible repeat (first | apply zAb | apply zAd | apply zAa)); refine blk_far ?_ NB362_367.out _; (with_reducible repeat (first | apply zAb | apply zAd | apply zAa)); refine blk_far ?_ NB362_367.out _; (with_reducible repeat (first | apply zAb | apply zAd | apply zAa)); refine blk_far ?_ NB362_367.out _; (with_reducible repeat (first | apply zAb | apply zAd | apply zAa)); refine blk_far ?_ NB362_367.out _; (with_reducible repeat (first | apply zAb | apply zAd | apply zAa)); refine blk_far ?_ NB362_367.out _; (with_reducible repeat (first | apply zAb | apply zAd | apply zAa)); exact BK362.out⟩,⟨by (with_reducible repeat (first | apply zAb | apply zAd | apply zAa)); refine blk_far ?_ NB363_367.out _; (with_reducible repeat (first | apply zAb | apply zAd | apply zAa)); refine blk_far ?_ NB363_367.out _; (with_reducible repeat (first | apply zAb | apply zAd | apply zAa)); refine blk_far ?_ NB363_367.out _; (with_reducible repeat (first | apply zAb | apply zAd | apply zAa)); refine blk_far ?_ NB363_367.out _; (with_reducible repeat (first | apply zAb | apply zAd | apply zAa)); refine blk_far ?_ NB363_367.out _; (with_reducible repeat (first | apply zAb | apply zAd | apply zAa)); exact BK363.out⟩,⟨by (with_reducible repeat (first | apply zAb | apply zAd | apply zAa)); refine blk_put (cs:=#[.int .i64 ((rd_T24 l0_0 x8_2).f0),.int .i64 ((rd_T24 l0_0 x8_2).f1),.int .i64 ((rd_T24 l0_0 x8_2).f2),.string ((rd_T24 l0_0 x8_2).f3),.slice none 0 0]) ?_ 4 _ rfl; (with_reducible repeat (first | apply zAb | apply zAd | apply zAa)); refine blk_put (cs:=#[.int .i64 ((rd_T24 l0_0 x8_2).f0),.int .i64 ((rd_T24 l0_0 x8_2).f1),.int .i64 ((rd_T24 l0_0 x8_2).f2),.string (⟨#[]⟩ : ByteArray),.slice none 0 0]) ?_ 3 _ rfl; (with_reducible repeat (first | apply zAb | apply zAd | apply zAa)); refine blk_put (cs:=#[.int .i64 ((rd_T24 l0_0 x8_2).f0),.int .i64 ((rd_T24 l0_0 x8_2).f1),.int .i64 0,.string (⟨#[]⟩ : ByteArray),.slice none 0 0]) ?_ 2 _ rfl; (with_reducible repeat (first | apply zAb | apply zAd | apply zAa)); refine blk_put (cs:=#[.int .i64 ((rd_T24 l0_0 x8_2).f0),.int .i64 0,.int .i64 0,.string (⟨#[]⟩ : ByteArray),.slice none 0 0]) ?_ 1 _ rfl; (with_reducible repeat (first | apply zAb | apply zAd | apply zAa)); refine blk_put (cs:=#[.int .i64 0,.int .i64 0,.int .i64 0,.string (⟨#[]⟩ : ByteArray),.slice none 0 0]) ?_ 0 _ rfl; (with_reducible repeat (first | apply zAb | apply zAd | apply zAa)); exact BK367.out⟩,⟨by repeat (first | (with_reducible first | exact HB.out | apply zAg | apply zAc | apply zAi | refine zAh ?_ GE362.out | refine zAh ?_ GE363.out | refine zAh ?_ GE367.out) | exact HB.out)⟩⟩
         case round =>
          clear H'
          try clear c1
          try clear c2
          try clear p2
          try clear c3
          try clear p3
          try clear q3
          try clear hx3
          try clear c7
          try clear c10
          try clear c11
          try clear c11b0
          try clear c12
          try clear c14
          try clear c15
          try clear c18
          try clear c20
          try clear c20b0
          try clear c21
          try clear c21b0
          try clear c22
          try clear c22b0
          try clear c23
          try clear c25
          try clear c26
          try clear c27
          try clear hcz13_0
          try clear hcz13_1
          try clear hcz16_0
          try clear hcz16_1
          try clear hcz19_0
          try clear hcz19_1
          try clear hcz24_0
          try clear hcz24_1
          try clear hcz28_0
          try clear hcz28_1
          try clear hcz28_2
          try clear hcz28_3
          try clear hcz28_4
          try clear hcz8_0
          try clear hcz8_1
          try clear hfz13_0
          try clear hfz13_1
          try clear hfz16_0
          try clear hfz16_1
          try clear hfz19_0
          try clear hfz19_1
          try clear hfz24_0
          try clear hfz24_1
          try clear hfz28_0
          try clear hfz28_1
          try clear hfz28_2
          try clear hfz28_3
          try clear hfz28_4
          try clear hfz8_0
          try clear hfz8_1
          try clear hx366_0
          try clear hx366_1
          try clear hx366_2
          try clear hx366_3
          try clear hx366_4
          try clear p2
          try clear p366
          try clear q366
          obtain ⟨x10_3,x11_3,rfl,HA,HK3,HO_7,HO_10,BK362,BK363,BK367,HB⟩:=hrel
          cases gk with
          | zero => exact absurd HA.out (by simp [zAx.l1])
          | succ k3 =>
           have H:=HA.out
           clear HA
           simp only [zAx.l1] at H
           by_cases c29 : x11_3 < (((rd_T24 l0_0 x8_2).f4).length : Int)
           ·rw [if_pos c29] at H
            have c29b0 : decide (x11_3 < (((rd_T24 l0_0 x8_2).f4).length : Int)) = true:=decide_eq_true c29
            clear c29
            by_cases c30 : 0 ≤ x11_3
            ·rw [if_pos c30] at H
             have c30b0 : decide (0 ≤ x11_3) = true:=decide_eq_true c30
             clear c30
             by_cases c31 : x10_3.length < 17592186044416
             ·rw [if_pos c31] at H
              have LMc31:=Aside0.mk c31
              clear c31
              obtain ⟨y369,hy369⟩ : ∃ y_ : List Int,y_ = (x10_3 ++ [wrap64 ((rd ((rd_T24 l0_0 x8_2).f4) x11_3) - t365)]):=⟨_,rfl⟩
              replace H : (zAx.l1 k3 a1 t365 x7_2 x8_2 y369 (wrap64 (x11_3 + 1)) l0_0 a0_1 ((rd_T24 l0_0 x8_2).f0) ((rd_T24 l0_0 x8_2).f1) ((rd_T24 l0_0 x8_2).f2) ((rd_T24 l0_0 x8_2).f3) ((rd_T24 l0_0 x8_2).f4)) = some (r1,r2):=by first | (rw [hy369]; with_reducible exact H) | (have H2_:=(Option.bind_some _ _).symm.trans H; rw [hy369]; with_reducible exact H2_) | (have H2_:=(Option.bind_some _ _).symm.trans H; with_reducible exact H2_) | with_reducible exact H | (rw [hy369]; exact H) | exact H
              have Ny369:=Aside0.mk hy369
              clear hy369
              have H':=Aside0.mk H
              clear H
              have hnb32:=NB367_362.out
              have hnc32:=NB362_367.out
              have hnb33:=NB367_363.out
              have hnc33:=NB363_367.out
              have hcz34_0 : wr.cell? ⟨gb367,0,none⟩ = some (.int .i64 ((rd_T24 l0_0 x8_2).f0)):=(zAf BK367.out 0).trans rfl
              have hcz34_1 : wr.cell? ⟨gb367,1,none⟩ = some (.int .i64 ((rd_T24 l0_0 x8_2).f1)):=(zAf BK367.out 1).trans rfl
              have hcz34_2 : wr.cell? ⟨gb367,2,none⟩ = some (.int .i64 ((rd_T24 l0_0 x8_2).f2)):=(zAf BK367.out 2).trans rfl
              have hcz34_3 : wr.cell? ⟨gb367,3,none⟩ = some (.string ((rd_T24 l0_0 x8_2).f3)):=(zAf BK367.out 3).trans rfl
              have hcz34_4 : wr.cell? ⟨gb367,4,none⟩ = some (.slice A366_4 ((rd_T24 l0_0 x8_2).f4).length c366_4):=(zAf BK367.out 4).trans rfl
              have hfz34_0:=zAe BK367.out 0
              have hfz34_1:=zAe BK367.out 1
              have hfz34_2:=zAe BK367.out 2
              have hfz34_3:=zAe BK367.out 3
              have hfz34_4:=zAe BK367.out 4
              have p368 : 0 ≤ (x11_3 : Int):=of_decide_eq_true (by first | (with_reducible assumption) | assumption)
              have q368 : x11_3 < (((rd_T24 l0_0 x8_2).f4).length : Int):=of_decide_eq_true (by first | (with_reducible assumption) | assumption)
              obtain ⟨ad368,e368,hx368_0⟩:=Kd.at_int HR366_4.out x11_3 p368 q368
              cases e368
              replace hx368_0:=(HB.out.cell (World.block_lt_of_cell? w _ hx368_0)).trans hx368_0
              replace p368:=eq_true p368
              replace q368:=eq_true q368
              go_wp2_with (first | ((with_reducible refine zBB (b:=.append) (xs:=#[.tmp 50,.tmp 58]) rfl ?_); (try (refine zBk (by rfl) ?_; dsimp only)); at_builtin; refine Kd.zCn (Kd.int .i64) (w0:=w) w.heap.size rfl (.tmp 50) (.tmp 58) 22 3 (.int .i64 0) 8 rfl Try.underlying22 info3 rfl (by decide) (by omega) u10 x10_3 (wrap64 ((rd ((rd_T24 l0_0 x8_2).f4) x11_3) - t365)) [.int .i64 (wrap64 ((rd ((rd_T24 l0_0 x8_2).f4) x11_3) - t365))] (fun _ => True) (fun _ => False) rfl rfl ?aP (fun _ hk => hk.elim) ?aF ?aO ?aB ?aS ?aL ?_; (case aP => exact rfl); (case aB => exact (by repeat (first | (with_reducible first | exact HB.out | apply zAg | apply zAc | apply zAi | refine zAh ?_ GE362.out | refine zAh ?_ GE363.out | refine zAh ?_ GE367.out) | exact HB.out))); (case aF => exact (fun _ _ => trivial)); (case aO => exact (by (with_reducible repeat (first | apply Kd.R_alloc | apply Kd.R_drewN | apply Kd.R_drew)); exact HO_10.out)); (case aS => exact (zAp (by repeat (first | (with_reducible first | exact HB.out | apply zAg | apply zAc | apply zAi | refine zAh ?_ GE362.out | refine zAh ?_ GE363.out | refine zAh ?_ GE367.out) | exact HB.out)))); (case aL => have:=LMc31.out; omega); intro v370 w35 ho hb hg hat; rw [← Ny369.out] at ho; have n0_:=Aside0.mk (Kd.S_after (ok:=(fun k_ => k_ ≠ gb367)) (by (with_reducible repeat (first | apply Kd.S_alloc | apply Kd.S_drewN | apply Kd.S_drew)); exact Kd.S_mono HO_7.out (fun _ hk => ⟨hk.2,hk.1⟩)) hg hat); have n1_:=Aside0.mk (zAU (g:=gb362) (o:=.cells #[.slice (some ad366) l0_0.length c0_0,.int .i64 a0_1] 30 (0,0)) (by (with_reducible repeat (first | apply zAb | apply zAd | apply zAa)); exact BK362.out) hg (Kd.R_ne HO_10.out BK362.out (by decide))); have n2_:=Aside0.mk (zAU (g:=gb363) (o:=.cells #[.slice none 0 0,.int .i64 0] 30 (0,0)) (by (with_reducible repeat (first | apply zAb | apply zAd | apply zAa)); exact BK363.out) hg (Kd.R_ne HO_10.out BK363.out (by decide))); have n3_:=Aside0.mk (zAU (g:=gb367) (o:=.cells #[.int .i64 ((rd_T24 l0_0 x8_2).f0),.int .i64 ((rd_T24 l0_0 x8_2).f1),.int .i64 ((rd_T24 l0_0 x8_2).f2),.string ((rd_T24 l0_0 x8_2).f3),.slice (some ad368) ((rd_T24 l0_0 x8_2).f4).length c366_4] 24 (0,0)) (by (with_reducible repeat (first | apply zAb | apply zAd | apply zAa)); exact BK367.out) hg (Kd.R_ne HO_10.out BK367.out (by decide))); have n4_:=Aside0.mk (hb); have n5_:=Aside0.mk (ho); clear HO_7; clear BK362; clear BK363; clear BK367; clear HB; clear HO_10; have HO_7:=n0_; have BK362:=n1_; have BK363:=n2_; have BK367:=n3_; have HB:=n4_; have HO371:=n5_; clear n0_ n1_ n2_ n3_ n4_ n5_; clear ho hb hg hat))
              go_roundg k3
              case measure => have:=HJ3.out; have:=HK2.out; have:=HK3.out; omega
              case rel => exact ⟨(y369),(wrap64 (x11_3 + 1)),(by first | rfl | (simp; done) | (simp [*]; done)),H',⟨by have:=HJ3.out; have:=HK2.out; have:=HK3.out; omega⟩,⟨by (with_reducible repeat (first | apply Kd.S_alloc | apply Kd.S_drewN | apply Kd.S_drew)); exact Kd.S_mono HO_7.out (fun _ hk => ⟨hk.2,hk.1⟩)⟩,⟨by (with_reducible repeat (first | apply Kd.R_alloc | apply Kd.R_drewN | apply Kd.R_drew)); exact HO371.out⟩,⟨by (with_reducible repeat (first | apply zAb | apply zAd | apply zAa)); exact BK362.out⟩,⟨by (with_reducible repeat (first | apply zAb | apply zAd | apply zAa)); exact BK363.out⟩,⟨by (with_reducible repeat (first | apply zAb | apply zAd | apply zAa)); exact BK367.out⟩,⟨by repeat (first | (with_reducible first | exact HB.out | apply zAg | apply zAc | apply zAi | refine zAh ?_ GE362.out | refine zAh ?_ GE363.out | refine zAh ?_ GE367.out) | exact HB.out)⟩⟩
             ·rw [if_neg c31] at H
              exact absurd H (by simp)
            ·rw [if_neg c30] at H
             exact absurd H (by simp)
           ·rw [if_neg c29] at H
            have c29b0 : decide (x11_3 < (((rd_T24 l0_0 x8_2).f4).length : Int)) = false:=decide_eq_false c29
            clear c29
            by_cases c36 : x7_2.length < 2199023255552
            ·rw [if_pos c36] at H
             have LMc36:=Aside0.mk c36
             clear c36
             obtain ⟨y372,hy372⟩ : ∃ y_ : List (S24),y_ = (x7_2 ++ [(⟨((rd_T24 l0_0 x8_2).f0),((rd_T24 l0_0 x8_2).f1),((rd_T24 l0_0 x8_2).f2),((rd_T24 l0_0 x8_2).f3),x10_3⟩ : S24)]):=⟨_,rfl⟩
             replace H : (zAx.l0 k3 a1 t365 y372 (wrap64 (x8_2 + 1)) l0_0 a0_1) = some (r1,r2):=by first | (rw [hy372]; with_reducible exact H) | (have H2_:=(Option.bind_some _ _).symm.trans H; rw [hy372]; with_reducible exact H2_) | (have H2_:=(Option.bind_some _ _).symm.trans H; with_reducible exact H2_) | with_reducible exact H | (rw [hy372]; exact H) | exact H
             have Ny372:=Aside0.mk hy372
             clear hy372
             have H':=Aside0.mk H
             clear H
             have hnb37:=NB367_362.out
             have hnc37:=NB362_367.out
             have hnb38:=NB367_363.out
             have hnc38:=NB363_367.out
             have hcz39_0 : wr.cell? ⟨gb367,0,none⟩ = some (.int .i64 ((rd_T24 l0_0 x8_2).f0)):=(zAf BK367.out 0).trans rfl
             have hcz39_1 : wr.cell? ⟨gb367,1,none⟩ = some (.int .i64 ((rd_T24 l0_0 x8_2).f1)):=(zAf BK367.out 1).trans rfl
             have hcz39_2 : wr.cell? ⟨gb367,2,none⟩ = some (.int .i64 ((rd_T24 l0_0 x8_2).f2)):=(zAf BK367.out 2).trans rfl
             have hcz39_3 : wr.cell? ⟨gb367,3,none⟩ = some (.string ((rd_T24 l0_0 x8_2).f3)):=(zAf BK367.out 3).trans rfl
             have hcz39_4 : wr.cell? ⟨gb367,4,none⟩ = some (.slice A366_4 ((rd_T24 l0_0 x8_2).f4).length c366_4):=(zAf BK367.out 4).trans rfl
             have hfz39_0:=zAe BK367.out 0
             have hfz39_1:=zAe BK367.out 1
             have hfz39_2:=zAe BK367.out 2
             have hfz39_3:=zAe BK367.out 3
             have hfz39_4:=zAe BK367.out 4
             obtain ⟨Ao40,co40,eo40⟩:=Kd.R_slice HO_10.out
             subst eo40
             go_wp2_with (first | ((with_reducible refine zBt (t:=22) (p:=61) rfl ?_); refine zBo (t:=22) (p:=61) (v:=?vo_w41) (w1:=(wr.setCell ⟨gb367,4,none⟩ (.slice Ao40 x10_3.length co40))) ?hg ?ho ?hn ?hr ?_; (case ho => rfl); (case hg => rfl); (case hn => rfl); (case hr => first | (go_simp; done) | (go_simp; rfl)); intro w41 hw; have n0_ : Aside0 (Kd.S k24 24 w41 w.heap.size (fun k_ => some k_ ≠ (.slice Ao40 x10_3.length co40 : Value).ownBlock ∧ k_ ≠ gb367) u7 x7_2):=⟨(by rw [hw]; exact (by (with_reducible repeat (first | apply Kd.S_alloc | apply Kd.S_drewN | apply Kd.S_drew)); exact Kd.S_mono (Kd.S_far (p:=⟨gb367,4,none⟩) (Kd.S_mono HO_7.out (fun k_ hk => (⟨hk,hk.2⟩ : _ ∧ k_ ≠ gb367))) (fun _ hk => hk.2) (.slice Ao40 x10_3.length co40)) (fun _ hk => ⟨hk.1.1,hk.1.2⟩)))⟩; have n1_ : Aside0 (Kd.R (Kd.int .i64) 3 w41 w.heap.size (fun _ => True) (.slice Ao40 x10_3.length co40) x10_3):=⟨(by rw [hw]; exact (by (with_reducible repeat (first | apply Kd.R_alloc | apply Kd.R_drewN | apply Kd.R_drew)); exact Kd.R_mono (Kd.R_far (p:=⟨gb367,4,none⟩) (Kd.R_types HO_10.out BK367.out (by decide)) (fun _ hk => hk.2) (.slice Ao40 x10_3.length co40)) (fun _ hk => trivial)))⟩; have n2_ : Aside0 (w41.heap[gb362]? = some (.cells #[.slice (some ad366) l0_0.length c0_0,.int .i64 a0_1] 30 (0,0))):=⟨(by rw [hw]; exact (by (with_reducible repeat (first | apply zAb | apply zAd | apply zAa)); refine blk_far ?_ NB362_367.out _; (with_reducible repeat (first | apply zAb | apply zAd | apply zAa)); exact BK362.out))⟩; have n3_ : Aside0 (w41.heap[gb363]? = some (.cells #[.slice none 0 0,.int .i64 0] 30 (0,0))):=⟨(by rw [hw]; exact (by (with_reducible repeat (first | apply zAb | apply zAd | apply zAa)); refine blk_far ?_ NB363_367.out _; (with_reducible repeat (first | apply zAb | apply zAd | apply zAa)); exact BK363.out))⟩; have n4_ : Aside0 (w41.heap[gb367]? = some (.cells #[.int .i64 ((rd_T24 l0_0 x8_2).f0),.int .i64 ((rd_T24 l0_0 x8_2).f1),.int .i64 ((rd_T24 l0_0 x8_2).f2),.string ((rd_T24 l0_0 x8_2).f3),.slice Ao40 x10_3.length co40] 24 (0,0))):=⟨(by rw [hw]; exact (by (with_reducible repeat (first | apply zAb | apply zAd | apply zAa)); refine blk_put (cs:=#[.int .i64 ((rd_T24 l0_0 x8_2).f0),.int .i64 ((rd_T24 l0_0 x8_2).f1),.int .i64 ((rd_T24 l0_0 x8_2).f2),.string ((rd_T24 l0_0 x8_2).f3),.slice A366_4 ((rd_T24 l0_0 x8_2).f4).length c366_4]) ?_ 4 _ rfl; (with_reducible repeat (first | apply zAb | apply zAd | apply zAa)); exact BK367.out))⟩; have n5_ : Aside0 (Below w.heap.size w w41):=⟨(by rw [hw]; exact (by repeat (first | (with_reducible first | exact HB.out | apply zAg | apply zAc | apply zAi | refine zAh ?_ GE362.out | refine zAh ?_ GE363.out | refine zAh ?_ GE367.out) | exact HB.out)))⟩; clear hw; clear HO_7; clear HO_10; clear BK362; clear BK363; clear BK367; clear HB; have HO_7:=n0_; have HO_10:=n1_; have BK362:=n2_; have BK363:=n3_; have BK367:=n4_; have HB:=n5_; clear n0_ n1_ n2_ n3_ n4_ n5_; have hcz42_0 : w41.cell? ⟨gb367,0,none⟩ = some (.int .i64 ((rd_T24 l0_0 x8_2).f0)):=(zAf BK367.out 0).trans rfl; have hcz42_1 : w41.cell? ⟨gb367,1,none⟩ = some (.int .i64 ((rd_T24 l0_0 x8_2).f1)):=(zAf BK367.out 1).trans rfl; have hcz42_2 : w41.cell? ⟨gb367,2,none⟩ = some (.int .i64 ((rd_T24 l0_0 x8_2).f2)):=(zAf BK367.out 2).trans rfl; have hcz42_3 : w41.cell? ⟨gb367,3,none⟩ = some (.string ((rd_T24 l0_0 x8_2).f3)):=(zAf BK367.out 3).trans rfl; have hcz42_4 : w41.cell? ⟨gb367,4,none⟩ = some (.slice Ao40 x10_3.length co40):=(zAf BK367.out 4).trans rfl; have hfz42_0:=zAe BK367.out 0; have hfz42_1:=zAe BK367.out 1; have hfz42_2:=zAe BK367.out 2; have hfz42_3:=zAe BK367.out 3; have hfz42_4:=zAe BK367.out 4) | ((with_reducible refine zBB (b:=.append) (xs:=#[.tmp 62,.tmp 64]) rfl ?_); (try (refine zBk (by rfl) ?_; dsimp only)); at_builtin; refine Kd.S_append k24 (w0:=w) w.heap.size rfl (.tmp 62) (.tmp 64) 28 24 (.agg #[(.int .i64 0),(.int .i64 0),(.int .i64 0),(.string ⟨#[]⟩),(.slice none 0 0)]) 64 rfl Try.underlying28 info24 rfl (by decide) (by omega) u7 x7_2 (⟨((rd_T24 l0_0 x8_2).f0),((rd_T24 l0_0 x8_2).f1),((rd_T24 l0_0 x8_2).f2),((rd_T24 l0_0 x8_2).f3),x10_3⟩ : S24) [.int .i64 ((rd_T24 l0_0 x8_2).f0),.int .i64 ((rd_T24 l0_0 x8_2).f1),.int .i64 ((rd_T24 l0_0 x8_2).f2),.string ((rd_T24 l0_0 x8_2).f3),.slice Ao40 x10_3.length co40] (fun k_ => k_ ≠ gb367) (fun k_ => some k_ = (.slice Ao40 x10_3.length co40 : Value).ownBlock) rfl rfl ?aP (fun k_ hk_ => ((Kd.R_mono (ok':=fun k_ => ((fun k_ => k_ ≠ gb367)) k_ ∧ some k_ ≠ (u7 : Value).ownBlock) (Kd.R_types (Kd.zBE (HO_10.out) (Kd.S_typed HO_7.out) (by decide)) BK367.out (by decide)) (fun k_ hk => ⟨hk.2,hk.1.2⟩))).1 k_ hk_.symm) ?aF ?aO ?aB ?aS ?aL ?_; (case aP => exact k24_mkM _ _ _ (⟨((rd_T24 l0_0 x8_2).f0),((rd_T24 l0_0 x8_2).f1),((rd_T24 l0_0 x8_2).f2),((rd_T24 l0_0 x8_2).f3),x10_3⟩ : S24) (Kd.R_mono (Kd.R_tight rfl (Kd.R_mono (ok':=fun k_ => ((fun k_ => k_ ≠ gb367)) k_ ∧ some k_ ≠ (u7 : Value).ownBlock) (Kd.R_types (Kd.zBE (HO_10.out) (Kd.S_typed HO_7.out) (by decide)) BK367.out (by decide)) (fun k_ hk => ⟨hk.2,hk.1.2⟩))) (fun _ h_ => h_))); (case aB => exact (by repeat (first | (with_reducible first | exact HB.out | apply zAg | apply zAc | apply zAi | refine zAh ?_ GE362.out | refine zAh ?_ GE363.out | refine zAh ?_ GE367.out) | exact HB.out))); (case aF => exact (fun k_ hk => Kd.freshB (g:=gb367) (o:=.cells #[.int .i64 ((rd_T24 l0_0 x8_2).f0),.int .i64 ((rd_T24 l0_0 x8_2).f1),.int .i64 ((rd_T24 l0_0 x8_2).f2),.string ((rd_T24 l0_0 x8_2).f3),.slice Ao40 x10_3.length co40] 24 (0,0)) (by (with_reducible repeat (first | apply zAb | apply zAd | apply zAa)); exact BK367.out) k_ hk)); (case aO => exact (by (with_reducible repeat (first | apply Kd.S_alloc | apply Kd.S_drewN | apply Kd.S_drew)); exact Kd.S_mono HO_7.out (fun k_ hk => ⟨hk.2,fun e_ => hk.1 e_⟩))); (case aS => exact (zAp (by repeat (first | (with_reducible first | exact HB.out | apply zAg | apply zAc | apply zAi | refine zAh ?_ GE362.out | refine zAh ?_ GE363.out | refine zAh ?_ GE367.out) | exact HB.out)))); (case aL => have:=LMc36.out; omega); intro v373 w43 ho hb hg hat; rw [← Ny372.out] at ho; have n0_:=Aside0.mk (zAU (g:=gb362) (o:=.cells #[.slice (some ad366) l0_0.length c0_0,.int .i64 a0_1] 30 (0,0)) (by (with_reducible repeat (first | apply zAb | apply zAd | apply zAa)); exact BK362.out) hg (Kd.S_ne HO_7.out BK362.out (by decide))); have n1_:=Aside0.mk (zAU (g:=gb363) (o:=.cells #[.slice none 0 0,.int .i64 0] 30 (0,0)) (by (with_reducible repeat (first | apply zAb | apply zAd | apply zAa)); exact BK363.out) hg (Kd.S_ne HO_7.out BK363.out (by decide))); have n2_:=Aside0.mk (zAU (g:=gb367) (o:=.cells #[.int .i64 ((rd_T24 l0_0 x8_2).f0),.int .i64 ((rd_T24 l0_0 x8_2).f1),.int .i64 ((rd_T24 l0_0 x8_2).f2),.string ((rd_T24 l0_0 x8_2).f3),.slice Ao40 x10_3.length co40] 24 (0,0)) (by (with_reducible repeat (first | apply zAb | apply zAd | apply zAa)); exact BK367.out) hg (Kd.S_away HO_7.out (fun _ hk => hk.2))); have n3_:=Aside0.mk (hb); have n4_:=Aside0.mk (ho); clear BK362; clear BK363; clear BK367; clear HB; clear HO_7; clear HO_10; have BK362:=n0_; have BK363:=n1_; have BK367:=n2_; have HB:=n3_; have HO374:=n4_; clear n0_ n1_ n2_ n3_ n4_; clear ho hb hg hat))
             go_roundg k3
             case measure => have:=HJ3.out; have:=HK2.out; have:=HK3.out; omega
             case rel => exact ⟨(y372),(wrap64 (x8_2 + 1)),(by first | rfl | (simp; done) | (simp [*]; done)),H',⟨by have:=HJ3.out; have:=HK2.out; have:=HK3.out; omega⟩,⟨by (with_reducible repeat (first | apply Kd.S_alloc | apply Kd.S_drewN | apply Kd.S_drew)); exact Kd.S_mono HO374.out (fun _ hk => trivial)⟩,⟨by (with_reducible repeat (first | apply zAb | apply zAd | apply zAa)); exact BK362.out⟩,⟨by (with_reducible repeat (first | apply zAb | apply zAd | apply zAa)); exact BK363.out⟩,⟨by repeat (first | (with_reducible first | exact HB.out | apply zAg | apply zAc | apply zAi | refine zAh ?_ GE362.out | refine zAh ?_ GE363.out | refine zAh ?_ GE367.out) | exact HB.out)⟩⟩
            ·rw [if_neg c36] at H
             exact absurd H (by simp)
        ·rw [if_neg c22] at H
         exact absurd H (by simp)
       ·rw [if_neg c21] at H
        exact absurd H (by simp)
      ·rw [if_neg c20] at H
       have c20b0 : decide (x8_2 ≤ a1) = false:=decide_eq_false c20
       clear c20
       simp only [Option.some.injEq,Prod.mk.injEq] at H
       obtain ⟨rfl,rfl⟩:=H
       obtain ⟨Ao44,co44,eo44⟩:=Kd.S_slice HO_7.out
       subst eo44
       have hnb45:=NB363_362.out
       have hnc45:=NB362_363.out
       have hcz46_0 : wr.cell? ⟨gb363,0,none⟩ = some (.slice none 0 0):=(zAf BK363.out 0).trans rfl
       have hcz46_1 : wr.cell? ⟨gb363,1,none⟩ = some (.int .i64 0):=(zAf BK363.out 1).trans rfl
       have hfz46_0:=zAe BK363.out 0
       have hfz46_1:=zAe BK363.out 1
       go_wp2
       refine bodyPost_ret (results_cell_row rfl _ _ gb363 30 #[.slice Ao44 x7_2.length co44,.int .i64 (wrap64 (a1 - t365))] (0,0) _ rfl (by (with_reducible repeat (first | apply zAb | apply zAd | apply zAa)); refine blk_put (cs:=#[.slice Ao44 x7_2.length co44,.int .i64 0]) ?_ 1 _ rfl; (with_reducible repeat (first | apply zAb | apply zAd | apply zAa)); refine blk_put (cs:=#[.slice none 0 0,.int .i64 0]) ?_ 0 _ rfl; (with_reducible repeat (first | apply zAb | apply zAd | apply zAa)); exact BK363.out) Try.underlying30 rfl (by kernel_rfl)) rfl ?_
       exact ⟨_,by first | rfl | (simp [zAo,zAn] <;> rfl) | (simp [*,zAo,zAn] <;> rfl),by (with_reducible repeat (first | apply Kd.S_alloc | apply Kd.S_drewN | apply Kd.S_drew)); exact Kd.S_mono (Kd.S_far (p:=⟨gb363,1,none⟩) (Kd.S_far (p:=⟨gb363,0,none⟩) (Kd.S_types HO_7.out BK363.out (by decide)) (fun _ hk => hk.2) (.slice Ao44 x7_2.length co44)) (fun _ hk => hk.2) (.int .i64 (wrap64 (a1 - t365)))) (fun _ hk => trivial),by repeat (first | (with_reducible first | exact HB.out | apply zAg | apply zAc | apply zAi | refine zAh ?_ GE362.out | refine zAh ?_ GE363.out) | exact HB.out)⟩
end Go.Proofs.Ytpggidmpkhmijaa.P
