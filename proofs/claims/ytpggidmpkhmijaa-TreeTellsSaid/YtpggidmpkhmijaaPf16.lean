import Derived.Test.YtpggidmpkhmijaaRose
import Derived.Test.YtpggidmpkhmijaaPf26
import Derived.Test.YtpggidmpkhmijaaPf15
set_option linter.unusedVariables false
set_option linter.unusedSimpArgs false
namespace Go.Proofs.Ytpggidmpkhmijaa.P
open Go.RowKit Go.Proofs.YtpggidmpkhmijaaW.PrintWords Go.Proofs.YtpggidmpkhmijaaW.PrintLast Go.Proofs.YtpggidmpkhmijaaW.PrintMore
attribute [local go_sem] zBa zAY max_two min_two zAR zAT zAZ zAX
mutual
def zAK.j0 : Nat → Int → Bool → List (S24) → Int → Option ((List (S24)) × Int)
 | 0,_,_,_,_ => none
 | k + 1,x1,x24,x236000,x236001 => if x24 = true then (some (([] : List (S24)),0)) else ((zBf.f x236000).bind fun bt238 => (if 0 ≤ x1 then (if x1 < (bt238.1.length : Int) then (if 0 ≤ (wrap64 ((wrap64 (x1 + 1)) - (rd bt238.1 x1))) then (if (wrap64 ((wrap64 (x1 + 1)) - (rd bt238.1 x1))) ≤ (wrap64 (x1 + 1)) then (if (wrap64 (x1 + 1)) ≤ (x236000.length : Int) then ((some ((x236000.take ((wrap64 (x1 + 1)) : Int).toNat).drop ((wrap64 ((wrap64 (x1 + 1)) - (rd bt238.1 x1))) : Int).toNat : List (S24))).bind fun y244 => (zAK.l0 k (wrap64 ((wrap64 (x1 + 1)) - (rd bt238.1 x1))) y244 (y244.length : Int) 0 ([] : List (S24)) (wrap64 (x1 - (wrap64 ((wrap64 (x1 + 1)) - (rd bt238.1 x1))))))) else (none)) else (none)) else (none)) else (none)) else (none)))
def zAK.l0 : Nat → Int → List (S24) → Int → Int → List (S24) → Int → Option ((List (S24)) × Int)
 | 0,_,_,_,_,_,_ => none
 | k + 1,x7,x48,x49,x50,x244000,x244001 => if x50 < x49 then (if 0 ≤ x50 then (if x50 < (x48.length : Int) then ((zBc.f k ((rd_T24 x48 x50).f0) ((rd_T24 x48 x50).f1) ((rd_T24 x48 x50).f2) ((rd_T24 x48 x50).f3) ((rd_T24 x48 x50).f4) (wrap64 (-x7))).bind fun bt250 => (if x244000.length < 2199023255552 then (zAK.l0 k x7 x48 x49 (wrap64 (x50 + 1)) (x244000 ++ [(⟨bt250.1,bt250.2.1,bt250.2.2.1,bt250.2.2.2.1,bt250.2.2.2.2⟩ : S24)]) x244001) else (none))) else (none)) else (none)) else (some (x244000,x244001))
end
def zAK.f (k : Nat) (l0_0 : List (S24)) (a0_1 : Int) (a1 : Int) : Option ((List (S24)) × Int):=(zAJ.f l0_0 a0_1).bind fun t237 => (if t237 = true then (if a1 < 0 then (zAK.j0 k a1 true l0_0 a0_1) else (zAK.j0 k a1 (decide (a1 ≥ (l0_0.length : Int))) l0_0 a0_1)) else (zAK.j0 k a1 true l0_0 a0_1))
def zAK.T9 : Bool × List (List Nat × List Nat):=(true,[([],[]),([0],[0]),([],[]),([],[]),([3],[3]),([2,4],[2,4]),([5],[5]),([1,6,5],[1,6]),([0,1,2,3,4,5,6,7],[]),([8,7,7,0,1,2,3,4,5,6,7],[7,8])])
def zAK.B9 : List Nat:=[0,1,0,0,8,28,60,127,255,511]
theorem zAK.tab9 : rtab .any (opsOf Try.f16 9) = zAK.T9:=by kernel_rfl
theorem zAK.bits9 : waitsOk zAK.T9.2 zAK.B9 = true:=by kernel_rfl
set_option maxHeartbeats 8000000 in
set_option maxRecDepth 100000 in
theorem zAK.calls (k : Nat) (A0_0 : Option Addr) (c0_0 : Nat) (l0_0 : List (S24)) (a0_1 : Int) (a1 : Int) (r1 : List (S24)) (r2 : Int) (w : World) (hr0_0 : Kd.C k24 w A0_0 l0_0.length l0_0) (hc0_0 : l0_0.length ≤ c0_0) (h : zAK.f k l0_0 a0_1 a1 = some (r1,r2)) :
  Calls Try.prog 16 #[.agg #[.slice A0_0 l0_0.length c0_0,.int .i64 a0_1],.int .i64 a1] w fun e w' => ∃ v0_ : Value,e = .returned (.agg #[v0_,.int .i64 r2]) ∧ Kd.S k24 24 w' w.heap.size (fun _ => True) v0_ r1 ∧ Below w.heap.size w w':=by
 have hu30:=Try.underlying30
 have hu24:=Try.underlying24
 have HR0_0:=Aside0.mk hr0_0
 have HC0_0:=Aside0.mk hc0_0
 clear hr0_0 hc0_0
 have HB:=Aside0.mk (Below.refl w.heap.size w)
 have H : ((zAJ.f l0_0 a0_1).bind fun t237 => (if t237 = true then (if a1 < 0 then (zAK.j0 k a1 true l0_0 a0_1) else (zAK.j0 k a1 (decide (a1 ≥ (l0_0.length : Int))) l0_0 a0_1)) else (zAK.j0 k a1 true l0_0 a0_1))) = some (r1,r2):=h
 clear h
 have HC3:=Aside0.mk H
 clear H
 go_enter Try.func16,Try.ntmps16
 go_upto_region 1 with (first | ((with_reducible refine zAM (N:=2) rfl ?_); (try (refine zBk (by rfl) ?_; dsimp only)); refine zAL ?hg (N:=2) ?hd (cs:=#[.slice A0_0 l0_0.length c0_0,.int .i64 a0_1]) (t:=30) ?hr ?_; (case hd => rfl); (case hg => rfl); (case hr => first | (go_simp; done) | (go_simp; rfl)); intro gb235 hg w4 hbox hb; have n0_:=Aside0.mk (zAm (by repeat (first | (with_reducible first | exact HB.out | apply zAg | apply zAc | apply zAi) | exact HB.out)) hb); have n1_:=Aside0.mk (hbox); have n2_:=Aside0.mk ((by rw [hg]; exact (zAp (by repeat (first | (with_reducible first | exact HB.out | apply zAg | apply zAc | apply zAi) | exact HB.out))) : w.heap.size ≤ gb235)); have n3_:=Aside0.mk ((by rw [hg]; exact (zAp (by repeat (first | (with_reducible first | exact HB.out | apply zAg | apply zAc | apply zAi) | exact HB.out))) : w.heap.size ≤ gb235)); clear HB; have HB:=n0_; have BK235:=n1_; have GW235:=n2_; have GE235:=n3_; clear n0_ n1_ n2_ n3_; clear hb hbox hg) | ((with_reducible refine zAM (N:=4) rfl ?_); (try (refine zBk (by rfl) ?_; dsimp only)); refine zAL ?hg (N:=4) ?hd (cs:=#[.slice none 0 0,.int .i64 0]) (t:=30) ?hr ?_; (case hd => rfl); (case hg => rfl); (case hr => first | (go_simp; done) | (go_simp; rfl)); intro gb236 hg w5 hbox hb; have n0_:=Aside0.mk (zAs (g:=gb235) (o:=.cells #[.slice A0_0 l0_0.length c0_0,.int .i64 a0_1] 30 (0,0)) (by (with_reducible repeat (first | apply zAb | apply zAd | apply zAa)); exact BK235.out) hb); have n1_:=Aside0.mk (zAm (by repeat (first | (with_reducible first | exact HB.out | apply zAg | apply zAc | apply zAi | refine zAh ?_ GE235.out) | exact HB.out)) hb); have n2_:=Aside0.mk (hbox); have n3_:=Aside0.mk ((by rw [hg]; exact (zAp (by repeat (first | (with_reducible first | exact HB.out | apply zAg | apply zAc | apply zAi | refine zAh ?_ GE235.out) | exact HB.out))) : w.heap.size ≤ gb236)); have n4_:=Aside0.mk ((by rw [hg]; exact (zAp (by repeat (first | (with_reducible first | exact HB.out | apply zAg | apply zAc | apply zAi | refine zAh ?_ GE235.out) | exact HB.out))) : w.heap.size ≤ gb236)); have n5_:=Aside0.mk ((by rw [hg]; exact Nat.ne_of_lt (blk_lt (g:=gb235) (o:=.cells #[.slice A0_0 l0_0.length c0_0,.int .i64 a0_1] 30 (0,0)) (by (with_reducible repeat (first | apply zAb | apply zAd | apply zAa)); exact BK235.out)) : gb235 ≠ gb236)); have n6_:=Aside0.mk ((by rw [hg]; exact Nat.ne_of_gt (blk_lt (g:=gb235) (o:=.cells #[.slice A0_0 l0_0.length c0_0,.int .i64 a0_1] 30 (0,0)) (by (with_reducible repeat (first | apply zAb | apply zAd | apply zAa)); exact BK235.out)) : gb236 ≠ gb235)); clear BK235; clear HB; have BK235:=n0_; have HB:=n1_; have BK236:=n2_; have GW236:=n3_; have GE236:=n4_; have NB235_236:=n5_; have NB236_235:=n6_; clear n0_ n1_ n2_ n3_ n4_ n5_ n6_; clear hb hbox hg))
 (try simp only [Act.put,List.setIfInBounds_toArray,List.set_cons_zero,List.set_cons_succ])
 go_cut [24] (fun v24 wc => ∃ (kq : Nat) (x24_2 : Bool),v24 = .bool x24_2 ∧ Aside0 (zAK.j0 kq a1 x24_2 l0_0 a0_1 = some (r1,r2)) ∧ Aside0 (kq ≤ k) ∧ Aside0 (wc.heap[gb235]? = some (.cells #[(.slice A0_0 l0_0.length c0_0),.int .i64 a0_1] 30 (0,0))) ∧ Aside0 (wc.heap[gb236]? = some (.cells #[(.slice none 0 0),.int .i64 0] 30 (0,0))) ∧ Aside0 (Below w.heap.size w wc))
 case first =>
  have H:=HC3.out
  clear HC3
  replace H:=Option.bind_eq_some_iff.mp H
  obtain ⟨t237,A60,H⟩:=H
  replace H : (if t237 = true then (if a1 < 0 then (zAK.j0 k a1 true l0_0 a0_1) else (zAK.j0 k a1 (decide (a1 ≥ (l0_0.length : Int))) l0_0 a0_1)) else (zAK.j0 k a1 true l0_0 a0_1)) = some (r1,r2):=H
  have A6:=Aside0.mk A60
  clear A60
  by_cases c7 : t237 = true
  ·subst c7
   have H1 : (if a1 < 0 then (zAK.j0 k a1 true l0_0 a0_1) else (zAK.j0 k a1 (decide (a1 ≥ (l0_0.length : Int))) l0_0 a0_1)) = some (r1,r2):=by rw [if_pos rfl] at H; exact H
   clear H
   have H:=H1
   clear H1
   by_cases c8 : a1 < 0
   ·rw [if_pos c8] at H
    have c8b0 : decide (a1 < 0) = true:=decide_eq_true c8
    clear c8
    (first | rw [c8b0] | (simp only [i64_w,i32_w]; rw [c8b0]) | skip)
    have H':=Aside0.mk H
    clear H
    have hnb9:=NB235_236.out
    have hnc9:=NB236_235.out
    have hcz10_0 : w5.cell? ⟨gb235,0,none⟩ = some (.slice A0_0 l0_0.length c0_0):=(zAf BK235.out 0).trans rfl
    have hcz10_1 : w5.cell? ⟨gb235,1,none⟩ = some (.int .i64 a0_1):=(zAf BK235.out 1).trans rfl
    have hfz10_0:=zAe BK235.out 0
    have hfz10_1:=zAe BK235.out 1
    go_wp2_with (first | ((with_reducible refine zAA (f:=15) rfl ?_); refine goesL_ (some 12) rfl rfl Try.func15 (by kernel_rfl) rfl #[.agg #[.slice A0_0 l0_0.length c0_0,.int .i64 a0_1]] rfl (by (try simp only [List.map_toArray,List.map_cons,List.map_nil]); first | done | rfl | (simp only [List.length_drop,List.length_take]; rfl)) ?_; (with_reducible refine (zAJ.calls _ _ l0_0 a0_1 true _ ?side1 ?side2 A6.out).mono ?_); (case side1 => repeat (first | exact (Kd.C_below HR0_0.out HB.out) | (with_reducible refine Kd.C_alloc ?_ _) | (with_reducible refine Kd.C_drewN ?_ _) | (with_reducible refine Kd.C_drew ?_))); (case side2 => exact HC0_0.out); rintro e w11 ⟨rfl,hb⟩; refine ⟨_,rfl,?_⟩; have n0_:=Aside0.mk (zAs (g:=gb235) (o:=.cells #[.slice A0_0 l0_0.length c0_0,.int .i64 a0_1] 30 (0,0)) (by (with_reducible repeat (first | apply zAb | apply zAd | apply zAa)); exact BK235.out) hb); have n1_:=Aside0.mk (zAs (g:=gb236) (o:=.cells #[.slice none 0 0,.int .i64 0] 30 (0,0)) (by (with_reducible repeat (first | apply zAb | apply zAd | apply zAa)); exact BK236.out) hb); have n2_:=Aside0.mk (zAm (by repeat (first | (with_reducible first | exact HB.out | apply zAg | apply zAc | apply zAi | refine zAh ?_ GE235.out | refine zAh ?_ GE236.out) | exact HB.out)) hb); clear BK235; clear BK236; clear HB; have BK235:=n0_; have BK236:=n1_; have HB:=n2_; clear n0_ n1_ n2_; (try clear hb); (try clear hb2); (try clear hk); (try clear hi)))
    go_meet
    case rel => exact ⟨_,(true),(by first | rfl | (simp; done) | (simp [*]; done)),H',⟨by first | omega | exact Nat.le_refl _⟩,⟨by (with_reducible repeat (first | apply zAb | apply zAd | apply zAa)); exact BK235.out⟩,⟨by (with_reducible repeat (first | apply zAb | apply zAd | apply zAa)); exact BK236.out⟩,⟨by repeat (first | (with_reducible first | exact HB.out | apply zAg | apply zAc | apply zAi | refine zAh ?_ GE235.out | refine zAh ?_ GE236.out) | exact HB.out)⟩⟩
   ·rw [if_neg c8] at H
    have c8b0 : decide (a1 < 0) = false:=decide_eq_false c8
    clear c8
    (first | rw [c8b0] | (simp only [i64_w,i32_w]; rw [c8b0]) | skip)
    have H':=Aside0.mk H
    clear H
    have hnb12:=NB235_236.out
    have hnc12:=NB236_235.out
    have hcz13_0 : w5.cell? ⟨gb235,0,none⟩ = some (.slice A0_0 l0_0.length c0_0):=(zAf BK235.out 0).trans rfl
    have hcz13_1 : w5.cell? ⟨gb235,1,none⟩ = some (.int .i64 a0_1):=(zAf BK235.out 1).trans rfl
    have hfz13_0:=zAe BK235.out 0
    have hfz13_1:=zAe BK235.out 1
    go_wp2_with (first | ((with_reducible refine zAA (f:=15) rfl ?_); refine goesL_ (some 12) rfl rfl Try.func15 (by kernel_rfl) rfl #[.agg #[.slice A0_0 l0_0.length c0_0,.int .i64 a0_1]] rfl (by (try simp only [List.map_toArray,List.map_cons,List.map_nil]); first | done | rfl | (simp only [List.length_drop,List.length_take]; rfl)) ?_; (with_reducible refine (zAJ.calls _ _ l0_0 a0_1 true _ ?side1 ?side2 A6.out).mono ?_); (case side1 => repeat (first | exact (Kd.C_below HR0_0.out HB.out) | (with_reducible refine Kd.C_alloc ?_ _) | (with_reducible refine Kd.C_drewN ?_ _) | (with_reducible refine Kd.C_drew ?_))); (case side2 => exact HC0_0.out); rintro e w14 ⟨rfl,hb⟩; refine ⟨_,rfl,?_⟩; have n0_:=Aside0.mk (zAs (g:=gb235) (o:=.cells #[.slice A0_0 l0_0.length c0_0,.int .i64 a0_1] 30 (0,0)) (by (with_reducible repeat (first | apply zAb | apply zAd | apply zAa)); exact BK235.out) hb); have n1_:=Aside0.mk (zAs (g:=gb236) (o:=.cells #[.slice none 0 0,.int .i64 0] 30 (0,0)) (by (with_reducible repeat (first | apply zAb | apply zAd | apply zAa)); exact BK236.out) hb); have n2_:=Aside0.mk (zAm (by repeat (first | (with_reducible first | exact HB.out | apply zAg | apply zAc | apply zAi | refine zAh ?_ GE235.out | refine zAh ?_ GE236.out) | exact HB.out)) hb); clear BK235; clear BK236; clear HB; have BK235:=n0_; have BK236:=n1_; have HB:=n2_; clear n0_ n1_ n2_; (try clear hb); (try clear hb2); (try clear hk); (try clear hi); have hcz15_0 : w14.cell? ⟨gb235,0,none⟩ = some (.slice A0_0 l0_0.length c0_0):=(zAf BK235.out 0).trans rfl; have hcz15_1 : w14.cell? ⟨gb235,1,none⟩ = some (.int .i64 a0_1):=(zAf BK235.out 1).trans rfl; have hfz15_0:=zAe BK235.out 0; have hfz15_1:=zAe BK235.out 1))
    go_meet
    case rel => exact ⟨_,(decide (a1 ≥ (l0_0.length : Int))),(by first | rfl | (simp; done) | (simp [*]; done)),H',⟨by first | omega | exact Nat.le_refl _⟩,⟨by (with_reducible repeat (first | apply zAb | apply zAd | apply zAa)); exact BK235.out⟩,⟨by (with_reducible repeat (first | apply zAb | apply zAd | apply zAa)); exact BK236.out⟩,⟨by repeat (first | (with_reducible first | exact HB.out | apply zAg | apply zAc | apply zAi | refine zAh ?_ GE235.out | refine zAh ?_ GE236.out) | exact HB.out)⟩⟩
  ·replace c7:=Bool.eq_false_iff.mpr c7
   subst c7
   have H1 : (zAK.j0 k a1 true l0_0 a0_1) = some (r1,r2):=by rw [if_neg (show ¬ (false = true) by decide)] at H; exact H
   clear H
   have H:=H1
   clear H1
   have H':=Aside0.mk H
   clear H
   have hnb16:=NB235_236.out
   have hnc16:=NB236_235.out
   have hcz17_0 : w5.cell? ⟨gb235,0,none⟩ = some (.slice A0_0 l0_0.length c0_0):=(zAf BK235.out 0).trans rfl
   have hcz17_1 : w5.cell? ⟨gb235,1,none⟩ = some (.int .i64 a0_1):=(zAf BK235.out 1).trans rfl
   have hfz17_0:=zAe BK235.out 0
   have hfz17_1:=zAe BK235.out 1
   go_wp2_with (first | ((with_reducible refine zAA (f:=15) rfl ?_); refine goesL_ (some 12) rfl rfl Try.func15 (by kernel_rfl) rfl #[.agg #[.slice A0_0 l0_0.length c0_0,.int .i64 a0_1]] rfl (by (try simp only [List.map_toArray,List.map_cons,List.map_nil]); first | done | rfl | (simp only [List.length_drop,List.length_take]; rfl)) ?_; (with_reducible refine (zAJ.calls _ _ l0_0 a0_1 false _ ?side1 ?side2 A6.out).mono ?_); (case side1 => repeat (first | exact (Kd.C_below HR0_0.out HB.out) | (with_reducible refine Kd.C_alloc ?_ _) | (with_reducible refine Kd.C_drewN ?_ _) | (with_reducible refine Kd.C_drew ?_))); (case side2 => exact HC0_0.out); rintro e w18 ⟨rfl,hb⟩; refine ⟨_,rfl,?_⟩; have n0_:=Aside0.mk (zAs (g:=gb235) (o:=.cells #[.slice A0_0 l0_0.length c0_0,.int .i64 a0_1] 30 (0,0)) (by (with_reducible repeat (first | apply zAb | apply zAd | apply zAa)); exact BK235.out) hb); have n1_:=Aside0.mk (zAs (g:=gb236) (o:=.cells #[.slice none 0 0,.int .i64 0] 30 (0,0)) (by (with_reducible repeat (first | apply zAb | apply zAd | apply zAa)); exact BK236.out) hb); have n2_:=Aside0.mk (zAm (by repeat (first | (with_reducible first | exact HB.out | apply zAg | apply zAc | apply zAi | refine zAh ?_ GE235.out | refine zAh ?_ GE236.out) | exact HB.out)) hb); clear BK235; clear BK236; clear HB; have BK235:=n0_; have BK236:=n1_; have HB:=n2_; clear n0_ n1_ n2_; (try clear hb); (try clear hb2); (try clear hk); (try clear hi)))
   go_meet
   case rel => exact ⟨_,(true),(by first | rfl | (simp; done) | (simp [*]; done)),H',⟨by first | omega | exact Nat.le_refl _⟩,⟨by (with_reducible repeat (first | apply zAb | apply zAd | apply zAa)); exact BK235.out⟩,⟨by (with_reducible repeat (first | apply zAb | apply zAd | apply zAa)); exact BK236.out⟩,⟨by repeat (first | (with_reducible first | exact HB.out | apply zAg | apply zAc | apply zAi | refine zAh ?_ GE235.out | refine zAh ?_ GE236.out) | exact HB.out)⟩⟩
 case rest =>
  clear HC3
  try clear c1
  try clear p2
  try clear c7
  try clear c8
  try clear c8b0
  try clear c9
  try clear c12
  try clear c15
  try clear c16
  try clear hcz10_0
  try clear hcz10_1
  try clear hcz13_0
  try clear hcz13_1
  try clear hcz15_0
  try clear hcz15_1
  try clear hcz17_0
  try clear hcz17_1
  try clear hfz10_0
  try clear hfz10_1
  try clear hfz13_0
  try clear hfz13_1
  try clear hfz15_0
  try clear hfz15_1
  try clear hfz17_0
  try clear hfz17_1
  obtain ⟨kq,x24_2,rfl,HA,HJ2,BK235,BK236,HB⟩:=hcut
  cases kq with
  | zero => exact absurd HA.out (by simp [zAK.j0])
  | succ kj2 =>
   have H:=HA.out
   clear HA
   simp only [zAK.j0] at H
   by_cases c19 : x24_2 = true
   ·subst c19
    have H1 : (some (([] : List (S24)),0)) = some (r1,r2):=by rw [if_pos rfl] at H; exact H
    clear H
    have H:=H1
    clear H1
    simp only [Option.some.injEq,Prod.mk.injEq] at H
    obtain ⟨rfl,rfl⟩:=H
    have hnb20:=NB236_235.out
    have hnc20:=NB235_236.out
    have hcz21_0 : wc.cell? ⟨gb236,0,none⟩ = some (.slice none 0 0):=(zAf BK236.out 0).trans rfl
    have hcz21_1 : wc.cell? ⟨gb236,1,none⟩ = some (.int .i64 0):=(zAf BK236.out 1).trans rfl
    have hfz21_0:=zAe BK236.out 0
    have hfz21_1:=zAe BK236.out 1
    go_wp2
    refine bodyPost_ret (results_cell_row rfl _ _ gb236 30 #[.slice none 0 0,.int .i64 0] (0,0) _ rfl (by (with_reducible repeat (first | apply zAb | apply zAd | apply zAa)); refine blk_put (cs:=#[.slice none 0 0,.int .i64 0]) ?_ 1 _ rfl; (with_reducible repeat (first | apply zAb | apply zAd | apply zAa)); refine blk_put (cs:=#[.slice none 0 0,.int .i64 0]) ?_ 0 _ rfl; (with_reducible repeat (first | apply zAb | apply zAd | apply zAa)); exact BK236.out) Try.underlying30 rfl (by kernel_rfl)) rfl ?_
    exact ⟨_,by first | rfl | (simp [zAo,zAn] <;> rfl) | (simp [*,zAo,zAn] <;> rfl),by first | exact Kd.S_nil _ _ _ _ _ | exact Kd.N_nil _ _ _ _ _ | exact Kd.V_nil _ _ _ _ _ | exact Kd.Q_nil _ _ _ _ _ | exact Kd.R_nil _ _ _ _ _,by repeat (first | (with_reducible first | exact HB.out | apply zAg | apply zAc | apply zAi | refine zAh ?_ GE235.out | refine zAh ?_ GE236.out) | exact HB.out)⟩
   ·replace c19:=Bool.eq_false_iff.mpr c19
    subst c19
    have H1 : ((zBf.f l0_0).bind fun bt238 => (if 0 ≤ a1 then (if a1 < (bt238.1.length : Int) then (if 0 ≤ (wrap64 ((wrap64 (a1 + 1)) - (rd bt238.1 a1))) then (if (wrap64 ((wrap64 (a1 + 1)) - (rd bt238.1 a1))) ≤ (wrap64 (a1 + 1)) then (if (wrap64 (a1 + 1)) ≤ (l0_0.length : Int) then ((some ((l0_0.take ((wrap64 (a1 + 1)) : Int).toNat).drop ((wrap64 ((wrap64 (a1 + 1)) - (rd bt238.1 a1))) : Int).toNat : List (S24))).bind fun y244 => (zAK.l0 kj2 (wrap64 ((wrap64 (a1 + 1)) - (rd bt238.1 a1))) y244 (y244.length : Int) 0 ([] : List (S24)) (wrap64 (a1 - (wrap64 ((wrap64 (a1 + 1)) - (rd bt238.1 a1))))))) else (none)) else (none)) else (none)) else (none)) else (none))) = some (r1,r2):=by rw [if_neg (show ¬ (false = true) by decide)] at H; exact H
    clear H
    have H:=H1
    clear H1
    replace H:=Option.bind_eq_some_iff.mp H
    obtain ⟨⟨t238,t239⟩,A220,H⟩:=H
    replace H : (if 0 ≤ a1 then (if a1 < (t238.length : Int) then (if 0 ≤ (wrap64 ((wrap64 (a1 + 1)) - (rd t238 a1))) then (if (wrap64 ((wrap64 (a1 + 1)) - (rd t238 a1))) ≤ (wrap64 (a1 + 1)) then (if (wrap64 (a1 + 1)) ≤ (l0_0.length : Int) then ((some ((l0_0.take ((wrap64 (a1 + 1)) : Int).toNat).drop ((wrap64 ((wrap64 (a1 + 1)) - (rd t238 a1))) : Int).toNat : List (S24))).bind fun y244 => (zAK.l0 kj2 (wrap64 ((wrap64 (a1 + 1)) - (rd t238 a1))) y244 (y244.length : Int) 0 ([] : List (S24)) (wrap64 (a1 - (wrap64 ((wrap64 (a1 + 1)) - (rd t238 a1))))))) else (none)) else (none)) else (none)) else (none)) else (none)) = some (r1,r2):=H
    have A22:=Aside0.mk A220
    clear A220
    by_cases c23 : 0 ≤ a1
    ·rw [if_pos c23] at H
     have c23b0 : decide (0 ≤ a1) = true:=decide_eq_true c23
     clear c23
     by_cases c24 : a1 < (t238.length : Int)
     ·rw [if_pos c24] at H
      have c24b0 : decide (a1 < (t238.length : Int)) = true:=decide_eq_true c24
      clear c24
      obtain ⟨ji25,hji25⟩ : ∃ j_ : Int,(wrap64 ((wrap64 (a1 + 1)) - (rd t238 a1))) = j_:=⟨_,rfl⟩
      replace H : (if 0 ≤ (ji25) then (if (ji25) ≤ (wrap64 (a1 + 1)) then (if (wrap64 (a1 + 1)) ≤ (l0_0.length : Int) then ((some ((l0_0.take ((wrap64 (a1 + 1)) : Int).toNat).drop ((ji25) : Int).toNat : List (S24))).bind fun y244 => (zAK.l0 kj2 ji25 y244 (y244.length : Int) 0 ([] : List (S24)) (wrap64 (a1 - (ji25))))) else (none)) else (none)) else (none)) = some (r1,r2):=by first | (rw [hji25] at H; exact H) | (simp only [hji25] at H ⊢; exact H)
      (try rw [hji25] at A22)
      have hji25w : (IntKind.i64.wrap ((wrap64 (a1 + 1)) - (rd t238 a1))) = ji25:=(i64_w _).trans hji25
      by_cases c26 : 0 ≤ (ji25)
      ·rw [if_pos c26] at H
       have c26b0:=eq_true c26
       have c26b1 : decide (0 ≤ (ji25)) = true:=decide_eq_true c26
       clear c26
       by_cases c27 : (ji25) ≤ (wrap64 (a1 + 1))
       ·rw [if_pos c27] at H
        have c27b0:=eq_true c27
        have c27b1 : decide ((ji25) ≤ (wrap64 (a1 + 1))) = true:=decide_eq_true c27
        by_cases c28 : (wrap64 (a1 + 1)) ≤ (l0_0.length : Int)
        ·rw [if_pos c28] at H
         have c28b0:=eq_true c28
         have c28b1 : decide ((wrap64 (a1 + 1)) ≤ (l0_0.length : Int)) = true:=decide_eq_true c28
         obtain ⟨y244,hy244⟩ : ∃ y_ : List (S24),y_ = ((l0_0.take ((wrap64 (a1 + 1)) : Int).toNat).drop ((ji25) : Int).toNat):=⟨_,rfl⟩
         replace H : (zAK.l0 kj2 ji25 y244 (y244.length : Int) 0 ([] : List (S24)) (wrap64 (a1 - (ji25)))) = some (r1,r2):=by first | (rw [hy244]; with_reducible exact H) | (have H2_:=(Option.bind_some _ _).symm.trans H; rw [hy244]; with_reducible exact H2_) | (have H2_:=(Option.bind_some _ _).symm.trans H; with_reducible exact H2_) | with_reducible exact H | (rw [hy244]; exact H) | exact H
         have Ny244:=Aside0.mk hy244
         clear hy244
         have H':=Aside0.mk H
         clear H
         have hnb29:=NB235_236.out
         have hnc29:=NB236_235.out
         have hcz30_0 : wc.cell? ⟨gb235,0,none⟩ = some (.slice A0_0 l0_0.length c0_0):=(zAf BK235.out 0).trans rfl
         have hcz30_1 : wc.cell? ⟨gb235,1,none⟩ = some (.int .i64 a0_1):=(zAf BK235.out 1).trans rfl
         have hfz30_0:=zAe BK235.out 0
         have hfz30_1:=zAe BK235.out 1
         go_wp2_with (first | ((with_reducible refine zAA (f:=27) rfl ?_); refine goesL_ (some 29) rfl rfl Try.func27 (by kernel_rfl) rfl #[.slice A0_0 l0_0.length c0_0] rfl (by (try simp only [List.map_toArray,List.map_cons,List.map_nil]); first | done | rfl | (simp only [List.length_drop,List.length_take]; rfl)) ?_; (with_reducible refine (zBf.calls _ _ l0_0 t238 t239 _ ?side1 ?side2 A22.out).mono ?_); (case side1 => repeat (first | exact (Kd.C_below HR0_0.out HB.out) | (with_reducible refine Kd.C_alloc ?_ _) | (with_reducible refine Kd.C_drewN ?_ _) | (with_reducible refine Kd.C_drew ?_))); (case side2 => exact HC0_0.out); rintro e w31 ⟨v240,rfl,ho0,hb⟩; refine ⟨_,rfl,?_⟩; have n0_:=Aside0.mk (Kd.R_lower ho0 (zAp (by repeat (first | (with_reducible first | exact HB.out | apply zAg | apply zAc | apply zAi | refine zAh ?_ GE235.out | refine zAh ?_ GE236.out) | exact HB.out)))); have n1_:=Aside0.mk (zAs (g:=gb235) (o:=.cells #[.slice A0_0 l0_0.length c0_0,.int .i64 a0_1] 30 (0,0)) (by (with_reducible repeat (first | apply zAb | apply zAd | apply zAa)); exact BK235.out) hb); have n2_:=Aside0.mk (zAs (g:=gb236) (o:=.cells #[.slice none 0 0,.int .i64 0] 30 (0,0)) (by (with_reducible repeat (first | apply zAb | apply zAd | apply zAa)); exact BK236.out) hb); have n3_:=Aside0.mk (zAm (by repeat (first | (with_reducible first | exact HB.out | apply zAg | apply zAc | apply zAi | refine zAh ?_ GE235.out | refine zAh ?_ GE236.out) | exact HB.out)) hb); clear BK235; clear BK236; clear HB; have HO241:=n0_; have BK235:=n1_; have BK236:=n2_; have HB:=n3_; clear n0_ n1_ n2_ n3_; (try clear hb); (try clear hb2); (try clear hk); (try clear hi); (try clear ho0); obtain ⟨Ao32,co32,eo32⟩:=Kd.R_slice HO241.out; subst eo32; have p242 : 0 ≤ (a1 : Int):=of_decide_eq_true (by first | (with_reducible assumption) | assumption); have q242 : a1 < (t238.length : Int):=of_decide_eq_true (by first | (with_reducible assumption) | assumption); obtain ⟨ad242,e242,hx242_0⟩:=Kd.at_int (Kd.zAV HO241.out).2.2 a1 p242 q242; cases e242; replace p242:=eq_true p242; replace q242:=eq_true q242) | ((with_reducible refine zAM (N:=8) rfl ?_); (try (refine zBk (by rfl) ?_; dsimp only)); refine zAL ?hg (N:=8) ?hd (cs:=#[.slice none 0 0,.int .i64 0]) (t:=30) ?hr ?_; (case hd => rfl); (case hg => rfl); (case hr => first | (go_simp; done) | (go_simp; rfl)); intro gb243 hg w33 hbox hb; have n0_:=Aside0.mk (Kd.R_below (by (with_reducible repeat (first | apply Kd.R_alloc | apply Kd.R_drewN | apply Kd.R_drew)); exact HO241.out) hb); have n1_:=Aside0.mk (zAs (g:=gb235) (o:=.cells #[.slice A0_0 l0_0.length c0_0,.int .i64 a0_1] 30 (0,0)) (by (with_reducible repeat (first | apply zAb | apply zAd | apply zAa)); exact BK235.out) hb); have n2_:=Aside0.mk (zAs (g:=gb236) (o:=.cells #[.slice none 0 0,.int .i64 0] 30 (0,0)) (by (with_reducible repeat (first | apply zAb | apply zAd | apply zAa)); exact BK236.out) hb); have n3_:=Aside0.mk (zAm (by repeat (first | (with_reducible first | exact HB.out | apply zAg | apply zAc | apply zAi | refine zAh ?_ GE235.out | refine zAh ?_ GE236.out) | exact HB.out)) hb); have n4_:=Aside0.mk (hbox); have n5_:=Aside0.mk ((by rw [hg]; exact (zAp (by repeat (first | (with_reducible first | exact HB.out | apply zAg | apply zAc | apply zAi | refine zAh ?_ GE235.out | refine zAh ?_ GE236.out) | exact HB.out))) : w.heap.size ≤ gb243)); have n6_:=Aside0.mk ((by rw [hg]; exact (zAp (by repeat (first | (with_reducible first | exact HB.out | apply zAg | apply zAc | apply zAi | refine zAh ?_ GE235.out | refine zAh ?_ GE236.out) | exact HB.out))) : w.heap.size ≤ gb243)); have n7_:=Aside0.mk ((by rw [hg]; exact Nat.ne_of_lt (blk_lt (g:=gb235) (o:=.cells #[.slice A0_0 l0_0.length c0_0,.int .i64 a0_1] 30 (0,0)) (by (with_reducible repeat (first | apply zAb | apply zAd | apply zAa)); exact BK235.out)) : gb235 ≠ gb243)); have n8_:=Aside0.mk ((by rw [hg]; exact Nat.ne_of_gt (blk_lt (g:=gb235) (o:=.cells #[.slice A0_0 l0_0.length c0_0,.int .i64 a0_1] 30 (0,0)) (by (with_reducible repeat (first | apply zAb | apply zAd | apply zAa)); exact BK235.out)) : gb243 ≠ gb235)); have n9_:=Aside0.mk ((by rw [hg]; exact Nat.ne_of_lt (blk_lt (g:=gb236) (o:=.cells #[.slice none 0 0,.int .i64 0] 30 (0,0)) (by (with_reducible repeat (first | apply zAb | apply zAd | apply zAa)); exact BK236.out)) : gb236 ≠ gb243)); have n10_:=Aside0.mk ((by rw [hg]; exact Nat.ne_of_gt (blk_lt (g:=gb236) (o:=.cells #[.slice none 0 0,.int .i64 0] 30 (0,0)) (by (with_reducible repeat (first | apply zAb | apply zAd | apply zAa)); exact BK236.out)) : gb243 ≠ gb236)); clear HO241; clear BK235; clear BK236; clear HB; have HO241:=n0_; have BK235:=n1_; have BK236:=n2_; have HB:=n3_; have BK243:=n4_; have GW243:=n5_; have GE243:=n6_; have NB235_243:=n7_; have NB243_235:=n8_; have NB236_243:=n9_; have NB243_236:=n10_; clear n0_ n1_ n2_ n3_ n4_ n5_ n6_ n7_ n8_ n9_ n10_; clear hb hbox hg; have hnb34:=NB243_235.out; have hnc34:=NB235_243.out; have hnb35:=NB243_236.out; have hnc35:=NB236_243.out; have hcz36_0 : w33.cell? ⟨gb243,0,none⟩ = some (.slice none 0 0):=(zAf BK243.out 0).trans rfl; have hcz36_1 : w33.cell? ⟨gb243,1,none⟩ = some (.int .i64 0):=(zAf BK243.out 1).trans rfl; have hfz36_0:=zAe BK243.out 0; have hfz36_1:=zAe BK243.out 1) | ((with_reducible refine zBt (t:=30) (p:=8) rfl ?_); refine zBo (t:=30) (p:=8) (v:=?vo_w37) (w1:=((w33.setCell ⟨gb243,0,none⟩ (.slice none 0 0)).setCell ⟨gb243,1,none⟩ (.int .i64 (wrap64 (a1 - (ji25)))))) ?hg ?ho ?hn ?hr ?_; (case ho => rfl); (case hg => rfl); (case hn => rfl); (case hr => first | (go_simp; done) | (go_simp; rfl)); intro w37 hw; have n0_ : Aside0 (Kd.R (Kd.int .i64) 3 w37 w.heap.size (fun _ => True) (.slice (some ad242) t238.length co32) t238):=⟨(by rw [hw]; exact (by (with_reducible repeat (first | apply Kd.R_alloc | apply Kd.R_drewN | apply Kd.R_drew)); exact Kd.R_mono (Kd.R_far (p:=⟨gb243,1,none⟩) (Kd.R_far (p:=⟨gb243,0,none⟩) (Kd.R_types HO241.out BK243.out (by decide)) (fun _ hk => hk.2) (.slice none 0 0)) (fun _ hk => hk.2) (.int .i64 (wrap64 (a1 - (ji25))))) (fun _ hk => trivial)))⟩; have n1_ : Aside0 (w37.heap[gb235]? = some (.cells #[.slice A0_0 l0_0.length c0_0,.int .i64 a0_1] 30 (0,0))):=⟨(by rw [hw]; exact (by (with_reducible repeat (first | apply zAb | apply zAd | apply zAa)); refine blk_far ?_ NB235_243.out _; (with_reducible repeat (first | apply zAb | apply zAd | apply zAa)); refine blk_far ?_ NB235_243.out _; (with_reducible repeat (first | apply zAb | apply zAd | apply zAa)); exact BK235.out))⟩; have n2_ : Aside0 (w37.heap[gb236]? = some (.cells #[.slice none 0 0,.int .i64 0] 30 (0,0))):=⟨(by rw [hw]; exact (by (with_reducible repeat (first | apply zAb | apply zAd | apply zAa)); refine blk_far ?_ NB236_243.out _; (with_reducible repeat (first | apply zAb | apply zAd | apply zAa)); refine blk_far ?_ NB236_243.out _; (with_reducible repeat (first | apply zAb | apply zAd | apply zAa)); exact BK236.out))⟩; have n3_ : Aside0 (w37.heap[gb243]? = some (.cells #[.slice none 0 0,.int .i64 (wrap64 (a1 - (ji25)))] 30 (0,0))):=⟨(by rw [hw]; exact (by (with_reducible repeat (first | apply zAb | apply zAd | apply zAa)); refine blk_put (cs:=#[.slice none 0 0,.int .i64 0]) ?_ 1 _ rfl; (with_reducible repeat (first | apply zAb | apply zAd | apply zAa)); refine blk_put (cs:=#[.slice none 0 0,.int .i64 0]) ?_ 0 _ rfl; (with_reducible repeat (first | apply zAb | apply zAd | apply zAa)); exact BK243.out))⟩; have n4_ : Aside0 (Below w.heap.size w w37):=⟨(by rw [hw]; exact (by repeat (first | (with_reducible first | exact HB.out | apply zAg | apply zAc | apply zAi | refine zAh ?_ GE235.out | refine zAh ?_ GE236.out | refine zAh ?_ GE243.out) | exact HB.out)))⟩; clear hw; clear HO241; clear BK235; clear BK236; clear BK243; clear HB; have HO241:=n0_; have BK235:=n1_; have BK236:=n2_; have BK243:=n3_; have HB:=n4_; clear n0_ n1_ n2_ n3_ n4_; have hcz38_0 : w37.cell? ⟨gb235,0,none⟩ = some (.slice A0_0 l0_0.length c0_0):=(zAf BK235.out 0).trans rfl; have hcz38_1 : w37.cell? ⟨gb235,1,none⟩ = some (.int .i64 a0_1):=(zAf BK235.out 1).trans rfl; have hfz38_0:=zAe BK235.out 0; have hfz38_1:=zAe BK235.out 1; have q39 : ((wrap64 (a1 + 1)) : Int) ≤ ((l0_0.length : Int) : Int):=of_decide_eq_true (by first | (with_reducible assumption) | assumption); obtain ⟨i039,hi039,_,hsz39,_⟩:=info_parts info24; have hroom39 : l0_0.length ≤ c0_0:=HC0_0.out; have hC39 : Kd.C k24 _ A0_0 l0_0.length l0_0:=HR0_0.out; have ql39 : ((ji25) : Int) ≤ ((wrap64 (a1 + 1)) : Int):=of_decide_eq_true (by first | (with_reducible assumption) | assumption); have q039 : (0 : Int) ≤ ((ji25) : Int):=of_decide_eq_true (by first | (with_reducible assumption) | assumption); have hcut39:=cut_mid (P:=Try.prog) 28 24 .i64 .i64 Try.underlying28 hi039 5 hsz39 A0_0 l0_0.length c0_0 (ji25) (wrap64 (a1 + 1)) q039 ql39 q39 hroom39; have hr39:=Kd.C_mid (lo:=((ji25) : Int).toNat) (hi:=((wrap64 (a1 + 1)) : Int).toNat) (c:=c0_0) hC39 (by omega) (by omega) hroom39; obtain ⟨A39,hA39⟩ : ∃ A1,A1 = (if c0_0 = ((ji25) : Int).toNat then A0_0 else (A0_0 : Option Addr).map (·.add (((ji25) : Int).toNat * 5))):=⟨_,rfl⟩; obtain ⟨c39,hc39⟩ : ∃ c1,c1 = c0_0 - ((ji25) : Int).toNat:=⟨_,rfl⟩; have hy39 : y244.length = ((wrap64 (a1 + 1)) : Int).toNat - ((ji25) : Int).toNat:=(by rw [Ny244.out,List.length_drop,List.length_take] <;> omega); rw [show ((l0_0).take ((wrap64 (a1 + 1)) : Int).toNat).drop ((ji25) : Int).toNat = y244 from Ny244.out.symm] at hr39; replace hr39 : Kd.C k24 _ A39 y244.length y244:=(by rw [hA39]; exact hr39); rw [← hy39,← hA39,← hc39] at hcut39; have HR247:=Aside0.mk hr39; have HC247:=Aside0.mk (show y244.length ≤ c39 from by rw [hy39,hc39]; exact Nat.sub_le_sub_right (Nat.le_trans (by omega) hroom39) _); clear hr39 hC39 hroom39 hi039 hsz39 hc39; have KY39:=Aside0.mk hy39; have KA39:=Aside0.mk hA39; clear hy39 hA39; replace q39:=eq_true q39))
         go_loopg [50] kj2 (fun kq v50 w' => ∃ (x50_2 : Int) (x244000_2 : List (S24)) (u244000 : Value),v50 = .int .i64 x50_2 ∧ Aside0 (zAK.l0 kq ji25 y244 (y244.length : Int) x50_2 x244000_2 (wrap64 (a1 - (ji25))) = some (r1,r2)) ∧ Aside0 (kq ≤ kj2) ∧ Aside0 (Kd.S k24 24 w' w.heap.size (fun _ => True) u244000 x244000_2) ∧ Aside0 (w'.heap[gb235]? = some (.cells #[(.slice A0_0 l0_0.length c0_0),.int .i64 a0_1] 30 (0,0))) ∧ Aside0 (w'.heap[gb236]? = some (.cells #[(.slice none 0 0),.int .i64 0] 30 (0,0))) ∧ Aside0 (w'.heap[gb243]? = some (.cells #[u244000,.int .i64 (wrap64 (a1 - (ji25)))] 30 (0,0))) ∧ Aside0 (Below w.heap.size w w'))
         case atStart => exact ⟨(0),(([] : List (S24))),(.slice none 0 0),(by first | rfl | (simp; done) | (simp [*]; done)),H',⟨Nat.le_refl _⟩,⟨by first | exact Kd.S_nil _ _ _ _ _ | exact Kd.N_nil _ _ _ _ _ | exact Kd.V_nil _ _ _ _ _ | exact Kd.Q_nil _ _ _ _ _ | exact Kd.R_nil _ _ _ _ _⟩,⟨by (with_reducible repeat (first | apply zAb | apply zAd | apply zAa)); exact BK235.out⟩,⟨by (with_reducible repeat (first | apply zAb | apply zAd | apply zAa)); exact BK236.out⟩,⟨by (with_reducible repeat (first | apply zAb | apply zAd | apply zAa)); exact BK243.out⟩,⟨by repeat (first | (with_reducible first | exact HB.out | apply zAg | apply zAc | apply zAi | refine zAh ?_ GE235.out | refine zAh ?_ GE236.out | refine zAh ?_ GE243.out) | exact HB.out)⟩⟩
         case round =>
          clear H'
          try clear c1
          try clear c2
          try clear p2
          try clear q2
          try clear hx2
          try clear c3
          try clear q3
          try clear p6
          try clear c7
          try clear c8
          try clear c8b0
          try clear c9
          try clear c12
          try clear c15
          try clear c16
          try clear c19
          try clear c20
          try clear c23
          try clear c23b0
          try clear c24
          try clear c24b0
          try clear p24
          try clear q24
          try clear hx24
          try clear c26
          try clear c26b0
          try clear c26b1
          try clear c27
          try clear c27b0
          try clear c27b1
          try clear c28
          try clear c28b0
          try clear c28b1
          try clear c29
          try clear c34
          try clear c35
          try clear c39
          try clear q39
          try clear hcz10_0
          try clear hcz10_1
          try clear hcz13_0
          try clear hcz13_1
          try clear hcz15_0
          try clear hcz15_1
          try clear hcz17_0
          try clear hcz17_1
          try clear hcz21_0
          try clear hcz21_1
          try clear hcz30_0
          try clear hcz30_1
          try clear hcz36_0
          try clear hcz36_1
          try clear hcz38_0
          try clear hcz38_1
          try clear hfz10_0
          try clear hfz10_1
          try clear hfz13_0
          try clear hfz13_1
          try clear hfz15_0
          try clear hfz15_1
          try clear hfz17_0
          try clear hfz17_1
          try clear hfz21_0
          try clear hfz21_1
          try clear hfz30_0
          try clear hfz30_1
          try clear hfz36_0
          try clear hfz36_1
          try clear hfz38_0
          try clear hfz38_1
          try clear hx242_0
          try clear p2
          try clear p242
          try clear q039
          try clear q242
          try clear q39
          obtain ⟨x50_2,x244000_2,u244000,rfl,HA,HK2,HO_244000,BK235,BK236,BK243,HB⟩:=hrel
          cases gk with
          | zero => exact absurd HA.out (by simp [zAK.l0])
          | succ k2 =>
           have H:=HA.out
           clear HA
           simp only [zAK.l0] at H
           by_cases c40 : x50_2 < (y244.length : Int)
           ·rw [if_pos c40] at H
            have c40b0 : decide (x50_2 < (y244.length : Int)) = true:=decide_eq_true c40
            clear c40
            by_cases c41 : 0 ≤ x50_2
            ·rw [if_pos c41] at H
             have c41b0 : decide (0 ≤ x50_2) = true:=decide_eq_true c41
             clear c41
             by_cases c42 : x50_2 < (y244.length : Int)
             ·rw [if_pos c42] at H
              have c42b0 : decide (x50_2 < (y244.length : Int)) = true:=decide_eq_true c42
              clear c42
              replace H:=Option.bind_eq_some_iff.mp H
              obtain ⟨⟨t250,t251,t252,t253,t254⟩,A430,H⟩:=H
              replace H : (if x244000_2.length < 2199023255552 then (zAK.l0 k2 ji25 y244 (y244.length : Int) (wrap64 (x50_2 + 1)) (x244000_2 ++ [(⟨t250,t251,t252,t253,t254⟩ : S24)]) (wrap64 (a1 - (ji25)))) else (none)) = some (r1,r2):=H
              have A43:=Aside0.mk A430
              clear A430
              by_cases c44 : x244000_2.length < 2199023255552
              ·rw [if_pos c44] at H
               have LMc44:=Aside0.mk c44
               clear c44
               obtain ⟨y257,hy257⟩ : ∃ y_ : List (S24),y_ = (x244000_2 ++ [(⟨t250,t251,t252,t253,t254⟩ : S24)]):=⟨_,rfl⟩
               replace H : (zAK.l0 k2 ji25 y244 (y244.length : Int) (wrap64 (x50_2 + 1)) y257 (wrap64 (a1 - (ji25)))) = some (r1,r2):=by first | (rw [hy257]; with_reducible exact H) | (have H2_:=(Option.bind_some _ _).symm.trans H; rw [hy257]; with_reducible exact H2_) | (have H2_:=(Option.bind_some _ _).symm.trans H; with_reducible exact H2_) | with_reducible exact H | (rw [hy257]; exact H) | exact H
               have Ny257:=Aside0.mk hy257
               clear hy257
               have H':=Aside0.mk H
               clear H
               have p248 : 0 ≤ (x50_2 : Int):=of_decide_eq_true (by first | (with_reducible assumption) | assumption)
               have q248 : x50_2 < (y244.length : Int):=of_decide_eq_true (by first | (with_reducible assumption) | assumption)
               obtain ⟨ad248,A248_4,c248_4,e248,hx248_0,hx248_1,hx248_2,hx248_3,hx248_4,hl248_4,hi248_4⟩:=at_T24 HR247.out x50_2 p248 q248
               cases e248
               replace hx248_0:=(HB.out.cell (World.block_lt_of_cell? w _ hx248_0)).trans hx248_0
               replace hx248_1:=(HB.out.cell (World.block_lt_of_cell? w _ hx248_1)).trans hx248_1
               replace hx248_2:=(HB.out.cell (World.block_lt_of_cell? w _ hx248_2)).trans hx248_2
               replace hx248_3:=(HB.out.cell (World.block_lt_of_cell? w _ hx248_3)).trans hx248_3
               replace hx248_4:=(HB.out.cell (World.block_lt_of_cell? w _ hx248_4)).trans hx248_4
               have HR248_4:=Aside0.mk hi248_4
               have HC248_4:=Aside0.mk hl248_4
               clear hi248_4 hl248_4
               replace p248:=eq_true p248
               replace q248:=eq_true q248
               try go_wp2_with (first | ((with_reducible refine zAM (N:=10) rfl ?_); (try (refine zBk (by rfl) ?_; dsimp only)); refine zAL ?hg (N:=10) ?hd (cs:=#[.int .i64 0,.int .i64 0,.int .i64 0,.string (⟨#[]⟩ : ByteArray),.slice none 0 0]) (t:=24) ?hr ?_; (case hd => rfl); (case hg => rfl); (case hr => first | (go_simp; done) | (go_simp; rfl)); intro gb249 hg w45 hbox hb; have n0_:=Aside0.mk (Kd.S_below (Kd.zCB (by (with_reducible repeat (first | apply Kd.S_alloc | apply Kd.S_drewN | apply Kd.S_drew)); exact HO_244000.out) gb249 (Nat.le_of_eq hg.symm)) hb); have n1_:=Aside0.mk (zAs (g:=gb235) (o:=.cells #[.slice A0_0 l0_0.length c0_0,.int .i64 a0_1] 30 (0,0)) (by (with_reducible repeat (first | apply zAb | apply zAd | apply zAa)); exact BK235.out) hb); have n2_:=Aside0.mk (zAs (g:=gb236) (o:=.cells #[.slice none 0 0,.int .i64 0] 30 (0,0)) (by (with_reducible repeat (first | apply zAb | apply zAd | apply zAa)); exact BK236.out) hb); have n3_:=Aside0.mk (zAs (g:=gb243) (o:=.cells #[u244000,.int .i64 (wrap64 (a1 - (ji25)))] 30 (0,0)) (by (with_reducible repeat (first | apply zAb | apply zAd | apply zAa)); exact BK243.out) hb); have n4_:=Aside0.mk (zAm (by repeat (first | (with_reducible first | exact HB.out | apply zAg | apply zAc | apply zAi | refine zAh ?_ GE235.out | refine zAh ?_ GE236.out | refine zAh ?_ GE243.out) | exact HB.out)) hb); have n5_:=Aside0.mk (hbox); have n6_:=Aside0.mk ((by rw [hg]; exact (zAp (by repeat (first | (with_reducible first | exact HB.out | apply zAg | apply zAc | apply zAi | refine zAh ?_ GE235.out | refine zAh ?_ GE236.out | refine zAh ?_ GE243.out) | exact HB.out))) : w.heap.size ≤ gb249)); have n7_:=Aside0.mk ((by rw [hg]; exact (zAp (by repeat (first | (with_reducible first | exact HB.out | apply zAg | apply zAc | apply zAi | refine zAh ?_ GE235.out | refine zAh ?_ GE236.out | refine zAh ?_ GE243.out) | exact HB.out))) : w.heap.size ≤ gb249)); have n8_:=Aside0.mk ((by rw [hg]; exact Nat.ne_of_lt (blk_lt (g:=gb235) (o:=.cells #[.slice A0_0 l0_0.length c0_0,.int .i64 a0_1] 30 (0,0)) (by (with_reducible repeat (first | apply zAb | apply zAd | apply zAa)); exact BK235.out)) : gb235 ≠ gb249)); have n9_:=Aside0.mk ((by rw [hg]; exact Nat.ne_of_gt (blk_lt (g:=gb235) (o:=.cells #[.slice A0_0 l0_0.length c0_0,.int .i64 a0_1] 30 (0,0)) (by (with_reducible repeat (first | apply zAb | apply zAd | apply zAa)); exact BK235.out)) : gb249 ≠ gb235)); have n10_:=Aside0.mk ((by rw [hg]; exact Nat.ne_of_lt (blk_lt (g:=gb236) (o:=.cells #[.slice none 0 0,.int .i64 0] 30 (0,0)) (by (with_reducible repeat (first | apply zAb | apply zAd | apply zAa)); exact BK236.out)) : gb236 ≠ gb249)); have n11_:=Aside0.mk ((by rw [hg]; exact Nat.ne_of_gt (blk_lt (g:=gb236) (o:=.cells #[.slice none 0 0,.int .i64 0] 30 (0,0)) (by (with_reducible repeat (first | apply zAb | apply zAd | apply zAa)); exact BK236.out)) : gb249 ≠ gb236)); have n12_:=Aside0.mk ((by rw [hg]; exact Nat.ne_of_lt (blk_lt (g:=gb243) (o:=.cells #[u244000,.int .i64 (wrap64 (a1 - (ji25)))] 30 (0,0)) (by (with_reducible repeat (first | apply zAb | apply zAd | apply zAa)); exact BK243.out)) : gb243 ≠ gb249)); have n13_:=Aside0.mk ((by rw [hg]; exact Nat.ne_of_gt (blk_lt (g:=gb243) (o:=.cells #[u244000,.int .i64 (wrap64 (a1 - (ji25)))] 30 (0,0)) (by (with_reducible repeat (first | apply zAb | apply zAd | apply zAa)); exact BK243.out)) : gb249 ≠ gb243)); clear HO_244000; clear BK235; clear BK236; clear BK243; clear HB; have HO_244000:=n0_; have BK235:=n1_; have BK236:=n2_; have BK243:=n3_; have HB:=n4_; have BK249:=n5_; have GW249:=n6_; have GE249:=n7_; have NB235_249:=n8_; have NB249_235:=n9_; have NB236_249:=n10_; have NB249_236:=n11_; have NB243_249:=n12_; have NB249_243:=n13_; clear n0_ n1_ n2_ n3_ n4_ n5_ n6_ n7_ n8_ n9_ n10_ n11_ n12_ n13_; clear hb hbox hg; have hnb46:=NB249_235.out; have hnc46:=NB235_249.out; have hnb47:=NB249_236.out; have hnc47:=NB236_249.out; have hnb48:=NB249_243.out; have hnc48:=NB243_249.out; have hcz49_0 : w45.cell? ⟨gb249,0,none⟩ = some (.int .i64 0):=(zAf BK249.out 0).trans rfl; have hcz49_1 : w45.cell? ⟨gb249,1,none⟩ = some (.int .i64 0):=(zAf BK249.out 1).trans rfl; have hcz49_2 : w45.cell? ⟨gb249,2,none⟩ = some (.int .i64 0):=(zAf BK249.out 2).trans rfl; have hcz49_3 : w45.cell? ⟨gb249,3,none⟩ = some (.string (⟨#[]⟩ : ByteArray)):=(zAf BK249.out 3).trans rfl; have hcz49_4 : w45.cell? ⟨gb249,4,none⟩ = some (.slice none 0 0):=(zAf BK249.out 4).trans rfl; have hfz49_0:=zAe BK249.out 0; have hfz49_1:=zAe BK249.out 1; have hfz49_2:=zAe BK249.out 2; have hfz49_3:=zAe BK249.out 3; have hfz49_4:=zAe BK249.out 4))
               have n0_ : Aside0 (Kd.S k24 24 (((((w45.setCell ⟨gb249,0,none⟩ (.int .i64 ((rd_T24 y244 x50_2).f0))).setCell ⟨gb249,1,none⟩ (.int .i64 ((rd_T24 y244 x50_2).f1))).setCell ⟨gb249,2,none⟩ (.int .i64 ((rd_T24 y244 x50_2).f2))).setCell ⟨gb249,3,none⟩ (.string ((rd_T24 y244 x50_2).f3))).setCell ⟨gb249,4,none⟩ (.slice A248_4 ((rd_T24 y244 x50_2).f4).length c248_4)) w.heap.size (fun k_ => k_ ≠ gb249) u244000 x244000_2):=⟨by (with_reducible repeat (first | apply Kd.S_alloc | apply Kd.S_drewN | apply Kd.S_drew)); exact Kd.S_mono (Kd.S_far (p:=⟨gb249,4,none⟩) (Kd.S_far (p:=⟨gb249,3,none⟩) (Kd.S_far (p:=⟨gb249,2,none⟩) (Kd.S_far (p:=⟨gb249,1,none⟩) (Kd.S_far (p:=⟨gb249,0,none⟩) (Kd.S_mono HO_244000.out (fun k_ hk => (⟨hk,hk.2⟩ : _ ∧ k_ ≠ gb249))) (fun _ hk => hk.2) (.int .i64 ((rd_T24 y244 x50_2).f0))) (fun _ hk => hk.2) (.int .i64 ((rd_T24 y244 x50_2).f1))) (fun _ hk => hk.2) (.int .i64 ((rd_T24 y244 x50_2).f2))) (fun _ hk => hk.2) (.string ((rd_T24 y244 x50_2).f3))) (fun _ hk => hk.2) (.slice A248_4 ((rd_T24 y244 x50_2).f4).length c248_4)) (fun _ hk => hk.1.2)⟩
               have n1_ : Aside0 ((((((w45.setCell ⟨gb249,0,none⟩ (.int .i64 ((rd_T24 y244 x50_2).f0))).setCell ⟨gb249,1,none⟩ (.int .i64 ((rd_T24 y244 x50_2).f1))).setCell ⟨gb249,2,none⟩ (.int .i64 ((rd_T24 y244 x50_2).f2))).setCell ⟨gb249,3,none⟩ (.string ((rd_T24 y244 x50_2).f3))).setCell ⟨gb249,4,none⟩ (.slice A248_4 ((rd_T24 y244 x50_2).f4).length c248_4)).heap[gb235]? = some (.cells #[.slice A0_0 l0_0.length c0_0,.int .i64 a0_1] 30 (0,0))):=⟨by (with_reducible repeat (first | apply zAb | apply zAd | apply zAa)); refine blk_far ?_ NB235_249.out _; (with_reducible repeat (first | apply zAb | apply zAd | apply zAa)); refine blk_far ?_ NB235_249.out _; (with_reducible repeat (first | apply zAb | apply zAd | apply zAa)); refine blk_far ?_ NB235_249.out _; (with_reducible repeat (first | apply zAb | apply zAd | apply zAa)); refine blk_far ?_ NB235_249.out _; (with_reducible repeat (first | apply zAb | apply zAd | apply zAa)); refine blk_far ?_ NB235_249.out _; (with_reducible repeat (first | apply zAb | apply zAd | apply zAa)); exact BK235.out⟩
               have n2_ : Aside0 ((((((w45.setCell ⟨gb249,0,none⟩ (.int .i64 ((rd_T24 y244 x50_2).f0))).setCell ⟨gb249,1,none⟩ (.int .i64 ((rd_T24 y244 x50_2).f1))).setCell ⟨gb249,2,none⟩ (.int .i64 ((rd_T24 y244 x50_2).f2))).setCell ⟨gb249,3,none⟩ (.string ((rd_T24 y244 x50_2).f3))).setCell ⟨gb249,4,none⟩ (.slice A248_4 ((rd_T24 y244 x50_2).f4).length c248_4)).heap[gb236]? = some (.cells #[.slice none 0 0,.int .i64 0] 30 (0,0))):=⟨by (with_reducible repeat (first | apply zAb | apply zAd | apply zAa)); refine blk_far ?_ NB236_249.out _; (with_reducible repeat (first | apply zAb | apply zAd | apply zAa)); refine blk_far ?_ NB236_249.out _; (with_reducible repeat (first | apply zAb | apply zAd | apply zAa)); refine blk_far ?_ NB236_249.out _; (with_reducible repeat (first | apply zAb | apply zAd | apply zAa)); refine blk_far ?_ NB236_249.out _; (with_reducible repeat (first | apply zAb | apply zAd | apply zAa)); refine blk_far ?_ NB236_249.out _; (with_reducible repeat (first | apply zAb | apply zAd | apply zAa)); exact BK236.out⟩
               have n3_ : Aside0 ((((((w45.setCell ⟨gb249,0,none⟩ (.int .i64 ((rd_T24 y244 x50_2).f0))).setCell ⟨gb249,1,none⟩ (.int .i64 ((rd_T24 y244 x50_2).f1))).setCell ⟨gb249,2,none⟩ (.int .i64 ((rd_T24 y244 x50_2).f2))).setCell ⟨gb249,3,none⟩ (.string ((rd_T24 y244 x50_2).f3))).setCell ⟨gb249,4,none⟩ (.slice A248_4 ((rd_T24 y244 x50_2).f4).length c248_4)).heap[gb243]? = some (.cells #[u244000,.int .i64 (wrap64 (a1 - (ji25)))] 30 (0,0))):=⟨by (with_reducible repeat (first | apply zAb | apply zAd | apply zAa)); refine blk_far ?_ NB243_249.out _; (with_reducible repeat (first | apply zAb | apply zAd | apply zAa)); refine blk_far ?_ NB243_249.out _; (with_reducible repeat (first | apply zAb | apply zAd | apply zAa)); refine blk_far ?_ NB243_249.out _; (with_reducible repeat (first | apply zAb | apply zAd | apply zAa)); refine blk_far ?_ NB243_249.out _; (with_reducible repeat (first | apply zAb | apply zAd | apply zAa)); refine blk_far ?_ NB243_249.out _; (with_reducible repeat (first | apply zAb | apply zAd | apply zAa)); exact BK243.out⟩
               have n4_ : Aside0 ((((((w45.setCell ⟨gb249,0,none⟩ (.int .i64 ((rd_T24 y244 x50_2).f0))).setCell ⟨gb249,1,none⟩ (.int .i64 ((rd_T24 y244 x50_2).f1))).setCell ⟨gb249,2,none⟩ (.int .i64 ((rd_T24 y244 x50_2).f2))).setCell ⟨gb249,3,none⟩ (.string ((rd_T24 y244 x50_2).f3))).setCell ⟨gb249,4,none⟩ (.slice A248_4 ((rd_T24 y244 x50_2).f4).length c248_4)).heap[gb249]? = some (.cells #[.int .i64 ((rd_T24 y244 x50_2).f0),.int .i64 ((rd_T24 y244 x50_2).f1),.int .i64 ((rd_T24 y244 x50_2).f2),.string ((rd_T24 y244 x50_2).f3),.slice A248_4 ((rd_T24 y244 x50_2).f4).length c248_4] 24 (0,0))):=⟨by (with_reducible repeat (first | apply zAb | apply zAd | apply zAa)); refine blk_put (cs:=#[.int .i64 ((rd_T24 y244 x50_2).f0),.int .i64 ((rd_T24 y244 x50_2).f1),.int .i64 ((rd_T24 y244 x50_2).f2),.string ((rd_T24 y244 x50_2).f3),.slice none 0 0]) ?_ 4 _ rfl; (with_reducible repeat (first | apply zAb | apply zAd | apply zAa)); refine blk_put (cs:=#[.int .i64 ((rd_T24 y244 x50_2).f0),.int .i64 ((rd_T24 y244 x50_2).f1),.int .i64 ((rd_T24 y244 x50_2).f2),.string (⟨#[]⟩ : ByteArray),.slice none 0 0]) ?_ 3 _ rfl; (with_reducible repeat (first | apply zAb | apply zAd | apply zAa)); refine blk_put (cs:=#[.int .i64 ((rd_T24 y244 x50_2).f0),.int .i64 ((rd_T24 y244 x50_2).f1),.int .i64 0,.string (⟨#[]⟩ : ByteArray),.slice none 0 0]) ?_ 2 _ rfl; (with_reducible repeat (first | apply zAb | apply zAd | apply zAa)); refine blk_put (cs:=#[.int .i64 ((rd_T24 y244 x50_2).f0),.int .i64 0,.int .i64 0,.string (⟨#[]⟩ : ByteArray),.slice none 0 0]) ?_ 1 _ rfl; (with_reducible repeat (first | apply zAb | apply zAd | apply zAa)); refine blk_put (cs:=#[.int .i64 0,.int .i64 0,.int .i64 0,.string (⟨#[]⟩ : ByteArray),.slice none 0 0]) ?_ 0 _ rfl; (with_reducible repeat (first | apply zAb | apply zAd | apply zAa)); exact BK249.out⟩
               have n5_ : Aside0 (Below w.heap.size w (((((w45.setCell ⟨gb249,0,none⟩ (.int .i64 ((rd_T24 y244 x50_2).f0))).setCell ⟨gb249,1,none⟩ (.int .i64 ((rd_T24 y244 x50_2).f1))).setCell ⟨gb249,2,none⟩ (.int .i64 ((rd_T24 y244 x50_2).f2))).setCell ⟨gb249,3,none⟩ (.string ((rd_T24 y244 x50_2).f3))).setCell ⟨gb249,4,none⟩ (.slice A248_4 ((rd_T24 y244 x50_2).f4).length c248_4))):=⟨by repeat (first | (with_reducible first | exact HB.out | apply zAg | apply zAc | apply zAi | refine zAh ?_ GE235.out | refine zAh ?_ GE236.out | refine zAh ?_ GE243.out | refine zAh ?_ GE249.out) | exact HB.out)⟩
               (try clear HO_244000)
               (try clear BK235)
               (try clear BK236)
               (try clear BK243)
               (try clear BK249)
               (try clear HB)
               generalize (((((w45.setCell ⟨gb249,0,none⟩ (.int .i64 ((rd_T24 y244 x50_2).f0))).setCell ⟨gb249,1,none⟩ (.int .i64 ((rd_T24 y244 x50_2).f1))).setCell ⟨gb249,2,none⟩ (.int .i64 ((rd_T24 y244 x50_2).f2))).setCell ⟨gb249,3,none⟩ (.string ((rd_T24 y244 x50_2).f3))).setCell ⟨gb249,4,none⟩ (.slice A248_4 ((rd_T24 y244 x50_2).f4).length c248_4)) = w50 at n0_ n1_ n2_ n3_ n4_ n5_ ⊢
               have HO_244000:=n0_
               have BK235:=n1_
               have BK236:=n2_
               have BK243:=n3_
               have BK249:=n4_
               have HB:=n5_
               clear n0_ n1_ n2_ n3_ n4_ n5_
               have n0_:=Aside0.mk (Kd.S_drew HO_244000.out)
               have n1_:=Aside0.mk (zAd BK235.out)
               have n2_:=Aside0.mk (zAd BK236.out)
               have n3_:=Aside0.mk (zAd BK243.out)
               have n4_:=Aside0.mk (zAd BK249.out)
               have n5_:=Aside0.mk (zAi HB.out)
               clear HO_244000
               clear BK235
               clear BK236
               clear BK243
               clear BK249
               clear HB
               have HO_244000:=n0_
               have BK235:=n1_
               have BK236:=n2_
               have BK243:=n3_
               have BK249:=n4_
               have HB:=n5_
               clear n0_ n1_ n2_ n3_ n4_ n5_
               refine start_ (n:=10) (S:=fun w' => w'.cell? ⟨gb243,0,none⟩ = some (u244000) ∧ w'.cell? ⟨gb243,1,none⟩ = some (.int .i64 (wrap64 (a1 - (ji25)))) ∧ w'.cell? ⟨gb249,0,none⟩ = some (.int .i64 ((rd_T24 y244 x50_2).f0)) ∧ w'.cell? ⟨gb249,1,none⟩ = some (.int .i64 ((rd_T24 y244 x50_2).f1)) ∧ w'.cell? ⟨gb249,2,none⟩ = some (.int .i64 ((rd_T24 y244 x50_2).f2)) ∧ w'.cell? ⟨gb249,3,none⟩ = some (.string ((rd_T24 y244 x50_2).f3)) ∧ w'.cell? ⟨gb249,4,none⟩ = some (.slice A248_4 ((rd_T24 y244 x50_2).f4).length c248_4)) (ds:=[9]) #[false,false,false,false,false,false,false,false,false,false] (by kernel_rfl) rfl rfl ⟨(zAf BK243.out 0).trans rfl,(zAf BK243.out 1).trans rfl,(zAf BK249.out 0).trans rfl,(zAf BK249.out 1).trans rfl,(zAf BK249.out 2).trans rfl,(zAf BK249.out 3).trans rfl,(zAf BK249.out 4).trans rfl⟩ (fun hHeld => ?_); refine zBs zAK.tab9 zAK.bits9 (fun HT_ HW_ => ?_)
               generalize w50.drew = w51 at HO_244000 BK235 BK236 BK243 BK249 HB hHeld ⊢
               refine pure_ (i:=0) (N:=some 54) (v:=?_) (a':=?_) #[true,false,false,false,false,false,false,false,false,false] rfl rfl (any_of HT_.out (by kernel_rfl)) (fun _ _ _ h => h) (Or.inl ⟨by rfl,?_⟩) ?_ ?_
               rotate_left
               ·intro w'
                go_simp
                with_reducible rfl
               rotate_left
               ·simp only [Act.put,List.setIfInBounds_toArray,List.set_cons_zero,List.set_cons_succ,i64_w,i32_w]
                rfl
               refine pure_ (i:=3) (N:=some 57) (v:=?_) (a':=?_) #[true,false,false,true,false,false,false,false,false,false] rfl rfl (any_of HT_.out (by kernel_rfl)) (fun _ _ _ h => h) (Or.inl ⟨by rfl,?_⟩) ?_ ?_
               rotate_left
               ·intro w'
                go_simp
                with_reducible rfl
               rotate_left
               ·simp only [Act.put,List.setIfInBounds_toArray,List.set_cons_zero,List.set_cons_succ,i64_w,i32_w]
                rfl
               refine pure_ (i:=4) (N:=some 58) (v:=?_) (a':=?_) #[true,false,false,true,true,false,false,false,false,false] rfl rfl (any_of HT_.out (by kernel_rfl)) (fun _ _ _ h => h) (Or.inl ⟨by rfl,?_⟩) ?_ ?_
               rotate_left
               ·intro w'
                go_simp
                with_reducible rfl
               rotate_left
               ·simp only [Act.put,List.setIfInBounds_toArray,List.set_cons_zero,List.set_cons_succ,i64_w,i32_w]
                rfl
               refine take_ (i:=1) (N:=some 55) (v:=?_) (a':=?_) #[true,true,false,true,true,false,false,false,false,false] rfl rfl (zBb HT_.out HW_.out (by kernel_rfl)) (fun _ _ _ h => h) (Or.inl ⟨by rfl,?_⟩) hHeld ?_ ?_
               rotate_left
               ·rintro w' ⟨s0,s1,s2,s3,s4,s5,s6⟩
                go_simp
                with_reducible rfl
               rotate_left
               ·simp only [Act.put,List.setIfInBounds_toArray,List.set_cons_zero,List.set_cons_succ,i64_w,i32_w]
                rfl
               refine take_ (i:=2) (N:=some 56) (v:=?_) (a':=?_) #[true,true,true,true,true,false,false,false,false,false] rfl rfl (zBb HT_.out HW_.out (by kernel_rfl)) (fun _ _ _ h => h) (Or.inl ⟨by rfl,?_⟩) hHeld ?_ ?_
               rotate_left
               ·rintro w' ⟨s0,s1,s2,s3,s4,s5,s6⟩
                go_simp
                with_reducible rfl
               rotate_left
               ·simp only [Act.put,List.setIfInBounds_toArray,List.set_cons_zero,List.set_cons_succ,i64_w,i32_w]
                rfl
               refine one_ (i:=5) (N:=some 59) #[true,true,true,true,true,true,false,false,false,false] rfl rfl (one_of HT_.out (by kernel_rfl)) (by decide) (fun K hK => ?_)
               refine goes_ Try.func26 (by kernel_rfl) rfl #[.agg #[.int .i64 ((rd_T24 y244 x50_2).f0),.int .i64 ((rd_T24 y244 x50_2).f1),.int .i64 ((rd_T24 y244 x50_2).f2),.string ((rd_T24 y244 x50_2).f3),.slice A248_4 ((rd_T24 y244 x50_2).f4).length c248_4],.int .i64 (wrap64 (-ji25))] (by rfl) rfl rfl (by (try simp only [List.map_toArray,List.map_cons,List.map_nil]); first | done | (simp only [hji25]; rfl) | rfl | (simp only [List.length_drop,List.length_take]; rfl)) ?_
               with_reducible refine (zBc.calls k2 ((rd_T24 y244 x50_2).f0) ((rd_T24 y244 x50_2).f1) ((rd_T24 y244 x50_2).f2) ((rd_T24 y244 x50_2).f3) _ _ ((rd_T24 y244 x50_2).f4) (wrap64 (-ji25)) t250 t251 t252 t253 t254 _ ?side1 ?side2 A43.out).mono ?_
               (case side1 => repeat (first | exact (Kd.C_below HR248_4.out HB.out) | (with_reducible refine Kd.C_alloc ?_ _) | (with_reducible refine Kd.C_drewN ?_ _) | (with_reducible refine Kd.C_drew ?_)))
               (case side2 => exact HC248_4.out)
               rintro e w52 ⟨v255,rfl,ho0,hb⟩
               refine ⟨_,rfl,?_⟩
               have n0_:=Aside0.mk (Kd.zCC (by (with_reducible repeat (first | apply Kd.S_alloc | apply Kd.S_drewN | apply Kd.S_drew)); exact HO_244000.out) (Kd.R_base ho0) hb)
               have n1_:=Aside0.mk (Kd.R_lower ho0 (zAp (by repeat (first | (with_reducible first | exact HB.out | apply zAg | apply zAc | apply zAi | refine zAh ?_ GE235.out | refine zAh ?_ GE236.out | refine zAh ?_ GE243.out | refine zAh ?_ GE249.out) | exact HB.out))))
               have n2_:=Aside0.mk (zAs (g:=gb235) (o:=.cells #[.slice A0_0 l0_0.length c0_0,.int .i64 a0_1] 30 (0,0)) (by (with_reducible repeat (first | apply zAb | apply zAd | apply zAa)); exact BK235.out) hb)
               have n3_:=Aside0.mk (zAs (g:=gb236) (o:=.cells #[.slice none 0 0,.int .i64 0] 30 (0,0)) (by (with_reducible repeat (first | apply zAb | apply zAd | apply zAa)); exact BK236.out) hb)
               have n4_:=Aside0.mk (zAs (g:=gb243) (o:=.cells #[u244000,.int .i64 (wrap64 (a1 - (ji25)))] 30 (0,0)) (by (with_reducible repeat (first | apply zAb | apply zAd | apply zAa)); exact BK243.out) hb)
               have n5_:=Aside0.mk (zAs (g:=gb249) (o:=.cells #[.int .i64 ((rd_T24 y244 x50_2).f0),.int .i64 ((rd_T24 y244 x50_2).f1),.int .i64 ((rd_T24 y244 x50_2).f2),.string ((rd_T24 y244 x50_2).f3),.slice A248_4 ((rd_T24 y244 x50_2).f4).length c248_4] 24 (0,0)) (by (with_reducible repeat (first | apply zAb | apply zAd | apply zAa)); exact BK249.out) hb)
               have n6_:=Aside0.mk (zAm (by repeat (first | (with_reducible first | exact HB.out | apply zAg | apply zAc | apply zAi | refine zAh ?_ GE235.out | refine zAh ?_ GE236.out | refine zAh ?_ GE243.out | refine zAh ?_ GE249.out) | exact HB.out)) hb)
               clear HO_244000
               clear BK235
               clear BK236
               clear BK243
               clear BK249
               clear HB
               have HO_244000:=n0_
               have HO256:=n1_
               have BK235:=n2_
               have BK236:=n3_
               have BK243:=n4_
               have BK249:=n5_
               have HB:=n6_
               clear n0_ n1_ n2_ n3_ n4_ n5_ n6_
               (try clear hb)
               (try clear hb2)
               (try clear hk)
               (try clear hi)
               (try clear ho0)
               obtain ⟨Ao54,co54,eo54⟩:=Kd.R_slice HO256.out
               (first | subst eo54 | (injection eo54 with f1_ f2_ f3_; have f4_:=f1_.symm; have f5_:=f3_.symm; clear f1_ f2_ f3_; subst f4_; subst f5_))
               refine hK.out _ _ ⟨(zAf BK243.out 0).trans rfl,(zAf BK243.out 1).trans rfl,(zAf BK249.out 0).trans rfl,(zAf BK249.out 1).trans rfl,(zAf BK249.out 2).trans rfl,(zAf BK249.out 3).trans rfl,(zAf BK249.out 4).trans rfl⟩ (fun hHeld => ?_)
               clear hK K
               refine norm_ (a':=?_) ?_ ?_
               rotate_left
               ·show Act.put _ (some 59) _ = _
                simp only [Act.put,List.setIfInBounds_toArray,List.set_cons_zero,List.set_cons_succ,i64_w,i32_w]
                rfl
               refine one_ (i:=6) (N:=some 60) #[true,true,true,true,true,true,true,false,false,false] rfl rfl (one_of HT_.out (by kernel_rfl)) (by decide) (fun K hK => ?_)
               refine value_ (w1:=?_) (v:=?_) (by rfl) rfl ?_ ?_
               rotate_left 2
               ·go_simp
                constructor
                ·rfl
                ·rfl
               refine hK.out _ _ ⟨(zAf (zAa BK243.out _) 0).trans rfl,(zAf (zAa BK243.out _) 1).trans rfl,(zAf (zAa BK249.out _) 0).trans rfl,(zAf (zAa BK249.out _) 1).trans rfl,(zAf (zAa BK249.out _) 2).trans rfl,(zAf (zAa BK249.out _) 3).trans rfl,(zAf (zAa BK249.out _) 4).trans rfl⟩ (fun hHeld => ?_)
               clear hK K
               refine norm_ (a':=?_) ?_ ?_
               rotate_left
               ·show Act.put _ (some 60) _ = _
                simp only [Act.put,List.setIfInBounds_toArray,List.set_cons_zero,List.set_cons_succ,i64_w,i32_w]
                rfl
               refine one_ (i:=7) (N:=some 61) #[true,true,true,true,true,true,true,true,false,false] rfl rfl (one_of HT_.out (by kernel_rfl)) (by decide) (fun K hK => ?_)
               refine Kd.S_append_step k24 (w0:=w) w.heap.size (by rfl) (.tmp 55) (.tmp 60) 28 24 (.agg #[(.int .i64 0),(.int .i64 0),(.int .i64 0),(.string ⟨#[]⟩),(.slice none 0 0)]) 64 rfl Try.underlying28 info24 rfl (by decide) (by omega) u244000 x244000_2 (⟨t250,t251,t252,t253,t254⟩ : S24) [.int .i64 t250,.int .i64 t251,.int .i64 t252,.string t253,.slice Ao54 t254.length co54] (fun k_ => k_ ≠ gb249) (fun k_ => some k_ = (.slice Ao54 t254.length co54 : Value).ownBlock) rfl rfl ?aP (fun k_ hk_ => ((Kd.R_mono (ok':=fun k_ => ((fun k_ => k_ ≠ gb249)) k_ ∧ some k_ ≠ (u244000 : Value).ownBlock) (Kd.R_types (Kd.zBE (HO256.out) (Kd.S_typed HO_244000.out) (by decide)) BK249.out (by decide)) (fun k_ hk => ⟨hk.2,hk.1.2⟩))).1 k_ hk_.symm) ?aF ?aO ?aB ?aS ?aL ?_
               (case aP => exact k24_mkM _ _ _ (⟨t250,t251,t252,t253,t254⟩ : S24) (Kd.R_mono (Kd.R_tight rfl (Kd.R_mono (ok':=fun k_ => ((fun k_ => k_ ≠ gb249)) k_ ∧ some k_ ≠ (u244000 : Value).ownBlock) (Kd.R_types (Kd.zBE (HO256.out) (Kd.S_typed HO_244000.out) (by decide)) BK249.out (by decide)) (fun k_ hk => ⟨hk.2,hk.1.2⟩))) (fun _ h_ => h_)))
               (case aB => exact (by repeat (first | (with_reducible first | exact HB.out | apply zAg | apply zAc | apply zAi | refine zAh ?_ GE235.out | refine zAh ?_ GE236.out | refine zAh ?_ GE243.out | refine zAh ?_ GE249.out) | exact HB.out)))
               (case aF => exact (fun k_ hk => Kd.freshB (g:=gb249) (o:=.cells #[.int .i64 ((rd_T24 y244 x50_2).f0),.int .i64 ((rd_T24 y244 x50_2).f1),.int .i64 ((rd_T24 y244 x50_2).f2),.string ((rd_T24 y244 x50_2).f3),.slice A248_4 ((rd_T24 y244 x50_2).f4).length c248_4] 24 (0,0)) (by (with_reducible repeat (first | apply zAb | apply zAd | apply zAa)); exact BK249.out) k_ hk))
               (case aO => exact (by (with_reducible repeat (first | apply Kd.S_alloc | apply Kd.S_drewN | apply Kd.S_drew)); exact Kd.S_mono HO_244000.out (fun k_ hk => ⟨hk.1,fun e_ => hk.2 e_⟩)))
               (case aS => exact (zAp (by repeat (first | (with_reducible first | exact HB.out | apply zAg | apply zAc | apply zAi | refine zAh ?_ GE235.out | refine zAh ?_ GE236.out | refine zAh ?_ GE243.out | refine zAh ?_ GE249.out) | exact HB.out))))
               (case aL => have:=LMc44.out; omega)
               intro v258 w53 ho hb hg hat
               rw [← Ny257.out] at ho
               have n0_:=Aside0.mk (zAU (g:=gb235) (o:=.cells #[.slice A0_0 l0_0.length c0_0,.int .i64 a0_1] 30 (0,0)) (by (with_reducible repeat (first | apply zAb | apply zAd | apply zAa)); exact BK235.out) hg (Kd.S_ne HO_244000.out BK235.out (by decide)))
               have n1_:=Aside0.mk (zAU (g:=gb236) (o:=.cells #[.slice none 0 0,.int .i64 0] 30 (0,0)) (by (with_reducible repeat (first | apply zAb | apply zAd | apply zAa)); exact BK236.out) hg (Kd.S_ne HO_244000.out BK236.out (by decide)))
               have n2_:=Aside0.mk (zAU (g:=gb243) (o:=.cells #[u244000,.int .i64 (wrap64 (a1 - (ji25)))] 30 (0,0)) (by (with_reducible repeat (first | apply zAb | apply zAd | apply zAa)); exact BK243.out) hg (Kd.S_ne HO_244000.out BK243.out (by decide)))
               have n3_:=Aside0.mk (zAU (g:=gb249) (o:=.cells #[.int .i64 ((rd_T24 y244 x50_2).f0),.int .i64 ((rd_T24 y244 x50_2).f1),.int .i64 ((rd_T24 y244 x50_2).f2),.string ((rd_T24 y244 x50_2).f3),.slice A248_4 ((rd_T24 y244 x50_2).f4).length c248_4] 24 (0,0)) (by (with_reducible repeat (first | apply zAb | apply zAd | apply zAa)); exact BK249.out) hg (Kd.S_away HO_244000.out (fun _ hk => hk.1)))
               have n4_:=Aside0.mk (hb)
               have n5_:=Aside0.mk (ho)
               clear BK235
               clear BK236
               clear BK243
               clear BK249
               clear HB
               clear HO_244000
               clear HO256
               have BK235:=n0_
               have BK236:=n1_
               have BK243:=n2_
               have BK249:=n3_
               have HB:=n4_
               have HO259:=n5_
               clear n0_ n1_ n2_ n3_ n4_ n5_
               clear ho hb hg hat
               obtain ⟨Ao55,co55,eo55⟩:=Kd.S_slice HO259.out
               (first | subst eo55 | (injection eo55 with f1_ f2_ f3_; have f4_:=f1_.symm; have f5_:=f3_.symm; clear f1_ f2_ f3_; subst f4_; subst f5_))
               refine hK.out _ _ ⟨(zAf BK243.out 0).trans rfl,(zAf BK243.out 1).trans rfl,(zAf BK249.out 0).trans rfl,(zAf BK249.out 1).trans rfl,(zAf BK249.out 2).trans rfl,(zAf BK249.out 3).trans rfl,(zAf BK249.out 4).trans rfl⟩ (fun hHeld => ?_)
               clear hK K
               refine norm_ (a':=?_) ?_ ?_
               rotate_left
               ·show Act.put _ (some 61) _ = _
                simp only [Act.put,List.setIfInBounds_toArray,List.set_cons_zero,List.set_cons_succ,i64_w,i32_w]
                rfl
               refine pure_ (i:=8) (N:=some 62) (v:=?_) (a':=?_) #[true,true,true,true,true,true,true,true,true,false] rfl rfl (any_of HT_.out (by kernel_rfl)) (fun _ _ _ h => h) (Or.inl ⟨by rfl,?_⟩) ?_ ?_
               rotate_left
               ·intro w'
                go_simp
                with_reducible rfl
               rotate_left
               ·simp only [Act.put,List.setIfInBounds_toArray,List.set_cons_zero,List.set_cons_succ,i64_w,i32_w]
                rfl
               refine last_ (i:=9) (N:=none) #[true,true,true,true,true,true,true,true,true,true] rfl rfl (one_of HT_.out (by kernel_rfl)) (by decide) (fun K hK => ?_)
               have hs56 : w53.cell? ⟨gb243,0,none⟩ = some (u244000):=(zAf BK243.out 0).trans rfl
               have hfs56:=zAe BK243.out 0
               have hns56_0:=NB235_243.out
               have hns56_1:=NB236_243.out
               have hns56_3:=NB249_243.out
               have hms56_0:=NB243_235.out
               have hms56_1:=NB243_236.out
               have hms56_3:=NB243_249.out
               refine skip_ (w1:=?_) (by rfl) rfl ?_ ?_
               rotate_left
               ·go_simp
                rfl
               refine hK.out _ _ ?_
               clear hK K
               refine done_ (done_of HT_.out (by kernel_rfl)) ?_
               try go_wp2
               go_roundg k2
               case measure => have:=HJ2.out; have:=HK2.out; omega
               case rel => exact ⟨(wrap64 (x50_2 + 1)),(y257),(.slice Ao55 y257.length co55),(by first | rfl | (simp; done) | (simp [*]; done)),H',⟨by have:=HJ2.out; have:=HK2.out; omega⟩,⟨by (with_reducible repeat (first | apply Kd.S_alloc | apply Kd.S_drewN | apply Kd.S_drew)); exact Kd.S_mono (Kd.S_far (p:=⟨gb243,0,none⟩) (Kd.S_types HO259.out BK243.out (by decide)) (fun _ hk => hk.2) (.slice Ao55 y257.length co55)) (fun _ hk => trivial)⟩,⟨by (with_reducible repeat (first | apply zAb | apply zAd | apply zAa)); refine blk_far ?_ NB235_243.out _; (with_reducible repeat (first | apply zAb | apply zAd | apply zAa)); exact BK235.out⟩,⟨by (with_reducible repeat (first | apply zAb | apply zAd | apply zAa)); refine blk_far ?_ NB236_243.out _; (with_reducible repeat (first | apply zAb | apply zAd | apply zAa)); exact BK236.out⟩,⟨by (with_reducible repeat (first | apply zAb | apply zAd | apply zAa)); refine blk_put (cs:=#[u244000,.int .i64 (wrap64 (a1 - (ji25)))]) ?_ 0 _ rfl; (with_reducible repeat (first | apply zAb | apply zAd | apply zAa)); exact BK243.out⟩,⟨by repeat (first | (with_reducible first | exact HB.out | apply zAg | apply zAc | apply zAi | refine zAh ?_ GE235.out | refine zAh ?_ GE236.out | refine zAh ?_ GE243.out | refine zAh ?_ GE249.out) | exact HB.out)⟩⟩
              ·rw [if_neg c44] at H
               exact absurd H (by simp)
             ·rw [if_neg c42] at H
              exact absurd H (by simp)
            ·rw [if_neg c41] at H
             exact absurd H (by simp)
           ·rw [if_neg c40] at H
            have c40b0 : decide (x50_2 < (y244.length : Int)) = false:=decide_eq_false c40
            clear c40
            simp only [Option.some.injEq,Prod.mk.injEq] at H
            obtain ⟨rfl,rfl⟩:=H
            have hnb57:=NB243_235.out
            have hnc57:=NB235_243.out
            have hnb58:=NB243_236.out
            have hnc58:=NB236_243.out
            have hcz59_0 : wr.cell? ⟨gb243,0,none⟩ = some (u244000):=(zAf BK243.out 0).trans rfl
            have hcz59_1 : wr.cell? ⟨gb243,1,none⟩ = some (.int .i64 (wrap64 (a1 - (ji25)))):=(zAf BK243.out 1).trans rfl
            have hfz59_0:=zAe BK243.out 0
            have hfz59_1:=zAe BK243.out 1
            obtain ⟨Ao60,co60,eo60⟩:=Kd.S_slice HO_244000.out
            subst eo60
            have hnb61:=NB236_235.out
            have hnc61:=NB235_236.out
            have hcz62_0 : wr.cell? ⟨gb236,0,none⟩ = some (.slice none 0 0):=(zAf BK236.out 0).trans rfl
            have hcz62_1 : wr.cell? ⟨gb236,1,none⟩ = some (.int .i64 0):=(zAf BK236.out 1).trans rfl
            have hfz62_0:=zAe BK236.out 0
            have hfz62_1:=zAe BK236.out 1
            go_wp2
            refine bodyPost_ret (results_cell_row rfl _ _ gb236 30 #[.slice Ao60 x244000_2.length co60,.int .i64 (wrap64 (a1 - (ji25)))] (0,0) _ rfl (by (with_reducible repeat (first | apply zAb | apply zAd | apply zAa)); refine blk_put (cs:=#[.slice Ao60 x244000_2.length co60,.int .i64 0]) ?_ 1 _ rfl; (with_reducible repeat (first | apply zAb | apply zAd | apply zAa)); refine blk_put (cs:=#[.slice none 0 0,.int .i64 0]) ?_ 0 _ rfl; (with_reducible repeat (first | apply zAb | apply zAd | apply zAa)); exact BK236.out) Try.underlying30 rfl (by kernel_rfl)) rfl ?_
            exact ⟨_,by first | rfl | (simp [zAo,zAn] <;> rfl) | (simp only [← hji25]; first | rfl | (simp [zAo,zAn] <;> rfl)) | (simp [*,zAo,zAn] <;> rfl),by (with_reducible repeat (first | apply Kd.S_alloc | apply Kd.S_drewN | apply Kd.S_drew)); exact Kd.S_mono (Kd.S_far (p:=⟨gb236,1,none⟩) (Kd.S_far (p:=⟨gb236,0,none⟩) (Kd.S_types HO_244000.out BK236.out (by decide)) (fun _ hk => hk.2) (.slice Ao60 x244000_2.length co60)) (fun _ hk => hk.2) (.int .i64 (wrap64 (a1 - (ji25))))) (fun _ hk => trivial),by repeat (first | (with_reducible first | exact HB.out | apply zAg | apply zAc | apply zAi | refine zAh ?_ GE235.out | refine zAh ?_ GE236.out | refine zAh ?_ GE243.out) | exact HB.out)⟩
        ·rw [if_neg c28] at H
         exact absurd H (by simp)
       ·rw [if_neg c27] at H
        exact absurd H (by simp)
      ·rw [if_neg c26] at H
       exact absurd H (by simp)
     ·rw [if_neg c24] at H
      exact absurd H (by simp)
    ·rw [if_neg c23] at H
     exact absurd H (by simp)
end Go.Proofs.Ytpggidmpkhmijaa.P
