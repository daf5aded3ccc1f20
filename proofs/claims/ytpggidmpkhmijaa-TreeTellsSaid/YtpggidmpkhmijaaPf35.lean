import Derived.Test.YtpggidmpkhmijaaRose
import Derived.Test.YtpggidmpkhmijaaPf47
import Derived.Test.YtpggidmpkhmijaaPf59
import Derived.Test.YtpggidmpkhmijaaPf49
set_option linter.unusedVariables false
set_option linter.unusedSimpArgs false
namespace Go.Proofs.Ytpggidmpkhmijaa.P
open Go.RowKit Go.Proofs.YtpggidmpkhmijaaW.PrintWords Go.Proofs.YtpggidmpkhmijaaW.PrintLast Go.Proofs.YtpggidmpkhmijaaW.PrintMore
attribute [local go_sem] zBa zAY max_two min_two zAR zAT zAZ zAX
mutual
def zAw.l0 : Nat → Int → List (S24) → Int → Option (Bool)
 | 0,_,_,_ => none
 | k + 1,x3,x337000,x337001 => if x3 < (x337000.length : Int) then (if 0 ≤ x3 then (zAw.l1 k x3 ([] : List Int) 0 x337000 x337001 ((rd_T24 x337000 x3).f0) ((rd_T24 x337000 x3).f1) ((rd_T24 x337000 x3).f2) ((rd_T24 x337000 x3).f3) ((rd_T24 x337000 x3).f4)) else (none)) else (some true)
def zAw.l1 : Nat → Int → List Int → Int → List (S24) → Int → Int → Int → Int → ByteArray → List Int → Option (Bool)
 | 0,_,_,_,_,_,_,_,_,_,_ => none
 | k + 1,x3,x5,x6,x337000,x337001,x339000,x339001,x339002,x339003,x339004 => if x6 < (x339004.length : Int) then (if 0 ≤ x6 then (if 0 ≤ (rd x339004 x6) then (if (rd x339004 x6) < (x337000.length : Int) then (if x5.length < 17592186044416 then (zAw.l1 k x3 (x5 ++ [(rd_T24 x337000 (rd x339004 x6)).f0]) (wrap64 (x6 + 1)) x337000 x337001 x339000 x339001 x339002 x339003 x339004) else (none)) else (none)) else (none)) else (none)) else ((zAr.f k x339000 x339001 x339002 x339003 x339004).bind fun t344 => ((zAE.f k x339000 x339001 x339002 x339003 x339004).bind fun t345 => ((zAk.f k x339000 x5).bind fun t346 => (if x339000 < 1 then (some false) else (if x339000 > 27 then (some false) else (if t344 = true then (if t345 = true then (if t346 = true then (zAw.l0 k (wrap64 (x3 + 1)) x337000 x337001) else (some false)) else (some false)) else (some false)))))))
end
def zAw.f (k : Nat) (l0_0 : List (S24)) (a0_1 : Int) : Option (Bool):=zAw.l0 k 0 l0_0 a0_1
def zAw.T9 : Bool × List (List Nat × List Nat):=(true,[([],[]),([],[]),([1],[1]),([],[]),([3],[3]),([],[]),([4,5],[4,5]),([6],[6]),([2,7],[2,7]),([8],[8]),([9],[9]),([10],[10]),([0,11],[0,11]),([12,12,0,1,2,3,4,5,6,7,8,9,10,11,12],[0,12])])
def zAw.B9 : List Nat:=[0,0,2,0,8,0,56,120,254,510,1022,2046,4095,8191]
theorem zAw.tab9 : rtab .any (opsOf Try.f35 9) = zAw.T9:=by kernel_rfl
theorem zAw.bits9 : waitsOk zAw.T9.2 zAw.B9 = true:=by kernel_rfl
set_option maxHeartbeats 8000000 in
set_option maxRecDepth 100000 in
theorem zAw.calls (k : Nat) (A0_0 : Option Addr) (c0_0 : Nat) (l0_0 : List (S24)) (a0_1 : Int) (r : Bool) (w : World) (hr0_0 : Kd.C k24 w A0_0 l0_0.length l0_0) (hc0_0 : l0_0.length ≤ c0_0) (h : zAw.f k l0_0 a0_1 = some r) :
  Calls Try.prog 35 #[.agg #[.slice A0_0 l0_0.length c0_0,.int .i64 a0_1]] w fun e w' => e = .returned (.bool r) ∧ Below w.heap.size w w':=by
 have hu30:=Try.underlying30
 have hu24:=Try.underlying24
 have HR0_0:=Aside0.mk hr0_0
 have HC0_0:=Aside0.mk hc0_0
 clear hr0_0 hc0_0
 have HB:=Aside0.mk (Below.refl w.heap.size w)
 have H : (zAw.l0 k 0 l0_0 a0_1) = some r:=h
 clear h
 have H':=Aside0.mk H
 clear H
 go_enter Try.func35,Try.ntmps35
 go_wp2_with (first | ((with_reducible refine zAM (N:=1) rfl ?_); refine zAL ?hg (N:=1) ?hd (cs:=#[.slice A0_0 l0_0.length c0_0,.int .i64 a0_1]) (t:=30) ?hr ?_; (case hd => rfl); (case hg => rfl); (case hr => first | (go_simp; done) | (go_simp; rfl)); intro gb336 hg w2 hbox hb; have n0_:=Aside0.mk (zAm (by repeat (first | (with_reducible first | exact HB.out | apply zAg | apply zAc | apply zAi) | exact HB.out)) hb); have n1_:=Aside0.mk (hbox); have n2_:=Aside0.mk ((by rw [hg]; exact (zAp (by repeat (first | (with_reducible first | exact HB.out | apply zAg | apply zAc | apply zAi) | exact HB.out))) : w.heap.size ≤ gb336)); have n3_:=Aside0.mk ((by rw [hg]; exact (zAp (by repeat (first | (with_reducible first | exact HB.out | apply zAg | apply zAc | apply zAi) | exact HB.out))) : w.heap.size ≤ gb336)); clear HB; have HB:=n0_; have BK336:=n1_; have GW336:=n2_; have GE336:=n3_; clear n0_ n1_ n2_ n3_; clear hb hbox hg))
 go_loopg [3] k (fun kq v3 w' => ∃ (x3_1 : Int),v3 = .int .i64 x3_1 ∧ Aside0 (zAw.l0 kq x3_1 l0_0 a0_1 = some r) ∧ Aside0 (kq ≤ k) ∧ Aside0 (w'.heap[gb336]? = some (.cells #[(.slice A0_0 l0_0.length c0_0),.int .i64 a0_1] 30 (0,0))) ∧ Aside0 (Below w.heap.size w w'))
 case atStart => exact ⟨(0),(by first | rfl | (simp; done) | (simp [*]; done)),H',⟨Nat.le_refl _⟩,⟨by (with_reducible repeat (first | apply zAb | apply zAd | apply zAa)); exact BK336.out⟩,⟨by repeat (first | (with_reducible first | exact HB.out | apply zAg | apply zAc | apply zAi | refine zAh ?_ GE336.out) | exact HB.out)⟩⟩
 case round =>
  clear H'
  try clear p2
  obtain ⟨x3_1,rfl,HA,HK1,BK336,HB⟩:=hrel
  cases gk with
  | zero => exact absurd HA.out (by simp [zAw.l0])
  | succ k1 =>
   have H:=HA.out
   clear HA
   simp only [zAw.l0] at H
   by_cases c3 : x3_1 < (l0_0.length : Int)
   ·rw [if_pos c3] at H
    have c3b0 : decide (x3_1 < (l0_0.length : Int)) = true:=decide_eq_true c3
    clear c3
    by_cases c4 : 0 ≤ x3_1
    ·rw [if_pos c4] at H
     have c4b0 : decide (0 ≤ x3_1) = true:=decide_eq_true c4
     clear c4
     have H':=Aside0.mk H
     clear H
     have hcz5_0 : wr.cell? ⟨gb336,0,none⟩ = some (.slice A0_0 l0_0.length c0_0):=(zAf BK336.out 0).trans rfl
     have hcz5_1 : wr.cell? ⟨gb336,1,none⟩ = some (.int .i64 a0_1):=(zAf BK336.out 1).trans rfl
     have hfz5_0:=zAe BK336.out 0
     have hfz5_1:=zAe BK336.out 1
     have p337 : 0 ≤ (x3_1 : Int):=of_decide_eq_true (by first | (with_reducible assumption) | assumption)
     have q337 : x3_1 < (l0_0.length : Int):=of_decide_eq_true (by first | (with_reducible assumption) | assumption)
     obtain ⟨ad337,A337_4,c337_4,e337,hx337_0,hx337_1,hx337_2,hx337_3,hx337_4,hl337_4,hi337_4⟩:=at_T24 HR0_0.out x3_1 p337 q337
     cases e337
     replace hx337_0:=(HB.out.cell (World.block_lt_of_cell? w _ hx337_0)).trans hx337_0
     replace hx337_1:=(HB.out.cell (World.block_lt_of_cell? w _ hx337_1)).trans hx337_1
     replace hx337_2:=(HB.out.cell (World.block_lt_of_cell? w _ hx337_2)).trans hx337_2
     replace hx337_3:=(HB.out.cell (World.block_lt_of_cell? w _ hx337_3)).trans hx337_3
     replace hx337_4:=(HB.out.cell (World.block_lt_of_cell? w _ hx337_4)).trans hx337_4
     have HR337_4:=Aside0.mk hi337_4
     have HC337_4:=Aside0.mk hl337_4
     clear hi337_4 hl337_4
     replace p337:=eq_true p337
     replace q337:=eq_true q337
     go_wp2_with (first | ((with_reducible refine zAM (N:=4) rfl ?_); refine zAL ?hg (N:=4) ?hd (cs:=#[.int .i64 0,.int .i64 0,.int .i64 0,.string (⟨#[]⟩ : ByteArray),.slice none 0 0]) (t:=24) ?hr ?_; (case hd => rfl); (case hg => rfl); (case hr => first | (go_simp; done) | (go_simp; rfl)); intro gb338 hg w6 hbox hb; have n0_:=Aside0.mk (zAs (g:=gb336) (o:=.cells #[.slice (some ad337) l0_0.length c0_0,.int .i64 a0_1] 30 (0,0)) (by (with_reducible repeat (first | apply zAb | apply zAd | apply zAa)); exact BK336.out) hb); have n1_:=Aside0.mk (zAm (by repeat (first | (with_reducible first | exact HB.out | apply zAg | apply zAc | apply zAi | refine zAh ?_ GE336.out) | exact HB.out)) hb); have n2_:=Aside0.mk (hbox); have n3_:=Aside0.mk ((by rw [hg]; exact (zAp (by repeat (first | (with_reducible first | exact HB.out | apply zAg | apply zAc | apply zAi | refine zAh ?_ GE336.out) | exact HB.out))) : w.heap.size ≤ gb338)); have n4_:=Aside0.mk ((by rw [hg]; exact (zAp (by repeat (first | (with_reducible first | exact HB.out | apply zAg | apply zAc | apply zAi | refine zAh ?_ GE336.out) | exact HB.out))) : w.heap.size ≤ gb338)); have n5_:=Aside0.mk ((by rw [hg]; exact Nat.ne_of_lt (blk_lt (g:=gb336) (o:=.cells #[.slice (some ad337) l0_0.length c0_0,.int .i64 a0_1] 30 (0,0)) (by (with_reducible repeat (first | apply zAb | apply zAd | apply zAa)); exact BK336.out)) : gb336 ≠ gb338)); have n6_:=Aside0.mk ((by rw [hg]; exact Nat.ne_of_gt (blk_lt (g:=gb336) (o:=.cells #[.slice (some ad337) l0_0.length c0_0,.int .i64 a0_1] 30 (0,0)) (by (with_reducible repeat (first | apply zAb | apply zAd | apply zAa)); exact BK336.out)) : gb338 ≠ gb336)); clear BK336; clear HB; have BK336:=n0_; have HB:=n1_; have BK338:=n2_; have GW338:=n3_; have GE338:=n4_; have NB336_338:=n5_; have NB338_336:=n6_; clear n0_ n1_ n2_ n3_ n4_ n5_ n6_; clear hb hbox hg; have hnb7:=NB338_336.out; have hnc7:=NB336_338.out; have hcz8_0 : w6.cell? ⟨gb338,0,none⟩ = some (.int .i64 0):=(zAf BK338.out 0).trans rfl; have hcz8_1 : w6.cell? ⟨gb338,1,none⟩ = some (.int .i64 0):=(zAf BK338.out 1).trans rfl; have hcz8_2 : w6.cell? ⟨gb338,2,none⟩ = some (.int .i64 0):=(zAf BK338.out 2).trans rfl; have hcz8_3 : w6.cell? ⟨gb338,3,none⟩ = some (.string (⟨#[]⟩ : ByteArray)):=(zAf BK338.out 3).trans rfl; have hcz8_4 : w6.cell? ⟨gb338,4,none⟩ = some (.slice none 0 0):=(zAf BK338.out 4).trans rfl; have hfz8_0:=zAe BK338.out 0; have hfz8_1:=zAe BK338.out 1; have hfz8_2:=zAe BK338.out 2; have hfz8_3:=zAe BK338.out 3; have hfz8_4:=zAe BK338.out 4))
     go_loopg [5,6] k1 (fun kq v5 v6 w' => ∃ (x5_2 : List Int) (x6_2 : Int),v6 = .int .i64 x6_2 ∧ Aside0 (zAw.l1 kq x3_1 x5_2 x6_2 l0_0 a0_1 ((rd_T24 l0_0 x3_1).f0) ((rd_T24 l0_0 x3_1).f1) ((rd_T24 l0_0 x3_1).f2) ((rd_T24 l0_0 x3_1).f3) ((rd_T24 l0_0 x3_1).f4) = some r) ∧ Aside0 (kq ≤ k1) ∧ Aside0 (Kd.R (Kd.int .i64) 3 w' w.heap.size (fun _ => True) v5 x5_2) ∧ Aside0 (w'.heap[gb336]? = some (.cells #[(.slice (some ad337) l0_0.length c0_0),.int .i64 a0_1] 30 (0,0))) ∧ Aside0 (w'.heap[gb338]? = some (.cells #[.int .i64 ((rd_T24 l0_0 x3_1).f0),.int .i64 ((rd_T24 l0_0 x3_1).f1),.int .i64 ((rd_T24 l0_0 x3_1).f2),.string ((rd_T24 l0_0 x3_1).f3),(.slice A337_4 ((rd_T24 l0_0 x3_1).f4).length c337_4)] 24 (0,0))) ∧ Aside0 (Below w.heap.size w w'))
     case atStart => exact ⟨(([] : List Int)),(0),(by first | rfl | (simp; done) | (simp [*]; done)),H',⟨Nat.le_refl _⟩,⟨by first | exact Kd.R_nil _ _ _ _ _ | exact Kd.N_nil _ _ _ _ _ | exact Kd.V_nil _ _ _ _ _ | exact Kd.Q_nil _ _ _ _ _ | exact Kd.S_nil _ _ _ _ _⟩,⟨by (with_reducible repeat (first | apply zAb | apply zAd | apply zAa)); refine blk_far ?_ NB336_338.out _; (with_reducible repeat (first | apply zAb | apply zAd | apply zAa)); refine blk_far ?_ NB336_338.out _; (with_reducible repeat (first | apply zAb | apply zAd | apply zAa)); refine blk_far ?_ NB336_338.out _; (with_reducible repeat (first | apply zAb | apply zAd | apply zAa)); refine blk_far ?_ NB336_338.out _; (with_reducible repeat (first | apply zAb | apply zAd | apply zAa)); refine blk_far ?_ NB336_338.out _; (with_reducible repeat (first | apply zAb | apply zAd | apply zAa)); exact BK336.out⟩,⟨by (with_reducible repeat (first | apply zAb | apply zAd | apply zAa)); refine blk_put (cs:=#[.int .i64 ((rd_T24 l0_0 x3_1).f0),.int .i64 ((rd_T24 l0_0 x3_1).f1),.int .i64 ((rd_T24 l0_0 x3_1).f2),.string ((rd_T24 l0_0 x3_1).f3),.slice none 0 0]) ?_ 4 _ rfl; (with_reducible repeat (first | apply zAb | apply zAd | apply zAa)); refine blk_put (cs:=#[.int .i64 ((rd_T24 l0_0 x3_1).f0),.int .i64 ((rd_T24 l0_0 x3_1).f1),.int .i64 ((rd_T24 l0_0 x3_1).f2),.string (⟨#[]⟩ : ByteArray),.slice none 0 0]) ?_ 3 _ rfl; (with_reducible repeat (first | apply zAb | apply zAd | apply zAa)); refine blk_put (cs:=#[.int .i64 ((rd_T24 l0_0 x3_1).f0),.int .i64 ((rd_T24 l0_0 x3_1).f1),.int .i64 0,.string (⟨#[]⟩ : ByteArray),.slice none 0 0]) ?_ 2 _ rfl; (with_reducible repeat (first | apply zAb | apply zAd | apply zAa)); refine blk_put (cs:=#[.int .i64 ((rd_T24 l0_0 x3_1).f0),.int .i64 0,.int .i64 0,.string (⟨#[]⟩ : ByteArray),.slice none 0 0]) ?_ 1 _ rfl; (with_reducible repeat (first | apply zAb | apply zAd | apply zAa)); refine blk_put (cs:=#[.int .i64 0,.int .i64 0,.int .i64 0,.string (⟨#[]⟩ : ByteArray),.slice none 0 0]) ?_ 0 _ rfl; (with_reducible repeat (first | apply zAb | apply zAd | apply zAa)); exact BK338.out⟩,⟨by repeat (first | (with_reducible first | exact HB.out | apply zAg | apply zAc | apply zAi | refine zAh ?_ GE336.out | refine zAh ?_ GE338.out) | exact HB.out)⟩⟩
     case round =>
      clear H'
      try clear p2
      try clear c3
      try clear c3b0
      try clear p3
      try clear q3
      try clear hx3
      try clear c4
      try clear c4b0
      try clear c7
      try clear hcz5_0
      try clear hcz5_1
      try clear hcz8_0
      try clear hcz8_1
      try clear hcz8_2
      try clear hcz8_3
      try clear hcz8_4
      try clear hfz5_0
      try clear hfz5_1
      try clear hfz8_0
      try clear hfz8_1
      try clear hfz8_2
      try clear hfz8_3
      try clear hfz8_4
      try clear hx337_0
      try clear hx337_1
      try clear hx337_2
      try clear hx337_3
      try clear hx337_4
      try clear p2
      try clear p337
      try clear q337
      obtain ⟨x5_2,x6_2,rfl,HA,HK2,HO_5,BK336,BK338,HB⟩:=hrel
      cases gk with
      | zero => exact absurd HA.out (by simp [zAw.l1])
      | succ k2 =>
       have H:=HA.out
       clear HA
       simp only [zAw.l1] at H
       by_cases c9 : x6_2 < (((rd_T24 l0_0 x3_1).f4).length : Int)
       ·rw [if_pos c9] at H
        have c9b0 : decide (x6_2 < (((rd_T24 l0_0 x3_1).f4).length : Int)) = true:=decide_eq_true c9
        clear c9
        by_cases c10 : 0 ≤ x6_2
        ·rw [if_pos c10] at H
         have c10b0 : decide (0 ≤ x6_2) = true:=decide_eq_true c10
         clear c10
         by_cases c11 : 0 ≤ (rd ((rd_T24 l0_0 x3_1).f4) x6_2)
         ·rw [if_pos c11] at H
          have c11b0 : decide (0 ≤ (rd ((rd_T24 l0_0 x3_1).f4) x6_2)) = true:=decide_eq_true c11
          clear c11
          by_cases c12 : (rd ((rd_T24 l0_0 x3_1).f4) x6_2) < (l0_0.length : Int)
          ·rw [if_pos c12] at H
           have c12b0 : decide ((rd ((rd_T24 l0_0 x3_1).f4) x6_2) < (l0_0.length : Int)) = true:=decide_eq_true c12
           clear c12
           by_cases c13 : x5_2.length < 17592186044416
           ·rw [if_pos c13] at H
            have LMc13:=Aside0.mk c13
            clear c13
            obtain ⟨y341,hy341⟩ : ∃ y_ : List Int,y_ = (x5_2 ++ [(rd_T24 l0_0 (rd ((rd_T24 l0_0 x3_1).f4) x6_2)).f0]):=⟨_,rfl⟩
            replace H : (zAw.l1 k2 x3_1 y341 (wrap64 (x6_2 + 1)) l0_0 a0_1 ((rd_T24 l0_0 x3_1).f0) ((rd_T24 l0_0 x3_1).f1) ((rd_T24 l0_0 x3_1).f2) ((rd_T24 l0_0 x3_1).f3) ((rd_T24 l0_0 x3_1).f4)) = some r:=by first | (rw [hy341]; with_reducible exact H) | (have H2_:=(Option.bind_some _ _).symm.trans H; rw [hy341]; with_reducible exact H2_) | (have H2_:=(Option.bind_some _ _).symm.trans H; with_reducible exact H2_) | with_reducible exact H | (rw [hy341]; exact H) | exact H
            have Ny341:=Aside0.mk hy341
            clear hy341
            have H':=Aside0.mk H
            clear H
            have hnb14:=NB338_336.out
            have hnc14:=NB336_338.out
            have hcz15_0 : wr.cell? ⟨gb338,0,none⟩ = some (.int .i64 ((rd_T24 l0_0 x3_1).f0)):=(zAf BK338.out 0).trans rfl
            have hcz15_1 : wr.cell? ⟨gb338,1,none⟩ = some (.int .i64 ((rd_T24 l0_0 x3_1).f1)):=(zAf BK338.out 1).trans rfl
            have hcz15_2 : wr.cell? ⟨gb338,2,none⟩ = some (.int .i64 ((rd_T24 l0_0 x3_1).f2)):=(zAf BK338.out 2).trans rfl
            have hcz15_3 : wr.cell? ⟨gb338,3,none⟩ = some (.string ((rd_T24 l0_0 x3_1).f3)):=(zAf BK338.out 3).trans rfl
            have hcz15_4 : wr.cell? ⟨gb338,4,none⟩ = some (.slice A337_4 ((rd_T24 l0_0 x3_1).f4).length c337_4):=(zAf BK338.out 4).trans rfl
            have hfz15_0:=zAe BK338.out 0
            have hfz15_1:=zAe BK338.out 1
            have hfz15_2:=zAe BK338.out 2
            have hfz15_3:=zAe BK338.out 3
            have hfz15_4:=zAe BK338.out 4
            try go_wp2
            have n0_:=Aside0.mk (Kd.R_drew HO_5.out)
            have n1_:=Aside0.mk (zAd BK336.out)
            have n2_:=Aside0.mk (zAd BK338.out)
            have n3_:=Aside0.mk (zAi HB.out)
            clear HO_5
            clear BK336
            clear BK338
            clear HB
            have HO_5:=n0_
            have BK336:=n1_
            have BK338:=n2_
            have HB:=n3_
            clear n0_ n1_ n2_ n3_
            have p339 : 0 ≤ (x6_2 : Int):=of_decide_eq_true (by first | (with_reducible assumption) | assumption)
            have q339 : x6_2 < (((rd_T24 l0_0 x3_1).f4).length : Int):=of_decide_eq_true (by first | (with_reducible assumption) | assumption)
            obtain ⟨ad339,e339,hx339_0⟩:=Kd.at_int HR337_4.out x6_2 p339 q339
            have hw339_0:=hx339_0
            cases e339
            replace hx339_0:=(HB.out.cell (World.block_lt_of_cell? w _ hx339_0)).trans hx339_0
            replace p339:=eq_true p339
            replace q339:=eq_true q339
            have p340 : 0 ≤ ((rd ((rd_T24 l0_0 x3_1).f4) x6_2) : Int):=of_decide_eq_true (by first | (with_reducible assumption) | assumption)
            have q340 : (rd ((rd_T24 l0_0 x3_1).f4) x6_2) < (l0_0.length : Int):=of_decide_eq_true (by first | (with_reducible assumption) | assumption)
            obtain ⟨ad340,A340_4,c340_4,e340,hx340_0,hx340_1,hx340_2,hx340_3,hx340_4,hl340_4,hi340_4⟩:=at_T24 HR0_0.out (rd ((rd_T24 l0_0 x3_1).f4) x6_2) p340 q340
            have hw340_4:=hx340_4
            have hw340_3:=hx340_3
            have hw340_2:=hx340_2
            have hw340_1:=hx340_1
            have hw340_0:=hx340_0
            obtain rfl : ad337 = ad340:=(by injection e340)
            replace hx340_0:=(HB.out.cell (World.block_lt_of_cell? w _ hx340_0)).trans hx340_0
            replace hx340_1:=(HB.out.cell (World.block_lt_of_cell? w _ hx340_1)).trans hx340_1
            replace hx340_2:=(HB.out.cell (World.block_lt_of_cell? w _ hx340_2)).trans hx340_2
            replace hx340_3:=(HB.out.cell (World.block_lt_of_cell? w _ hx340_3)).trans hx340_3
            replace hx340_4:=(HB.out.cell (World.block_lt_of_cell? w _ hx340_4)).trans hx340_4
            have HR340_4:=Aside0.mk hi340_4
            have HC340_4:=Aside0.mk hl340_4
            clear hi340_4 hl340_4
            replace p340:=eq_true p340
            replace q340:=eq_true q340
            refine start_ (n:=14) (S:=fun w' => w'.cell? ⟨gb336,0,none⟩ = some (.slice (some ad337) l0_0.length c0_0) ∧ w'.cell? ⟨gb336,1,none⟩ = some (.int .i64 a0_1) ∧ w'.cell? ⟨gb338,0,none⟩ = some (.int .i64 ((rd_T24 l0_0 x3_1).f0)) ∧ w'.cell? ⟨gb338,1,none⟩ = some (.int .i64 ((rd_T24 l0_0 x3_1).f1)) ∧ w'.cell? ⟨gb338,2,none⟩ = some (.int .i64 ((rd_T24 l0_0 x3_1).f2)) ∧ w'.cell? ⟨gb338,3,none⟩ = some (.string ((rd_T24 l0_0 x3_1).f3)) ∧ w'.cell? ⟨gb338,4,none⟩ = some (.slice (some ad339) ((rd_T24 l0_0 x3_1).f4).length c337_4) ∧ w'.cell? (ad339.add (x6_2).toNat) = some (.int .i64 (rd ((rd_T24 l0_0 x3_1).f4) x6_2)) ∧ w'.cell? (ad337.add (((rd ((rd_T24 l0_0 x3_1).f4) x6_2)).toNat * 5)) = some (.int .i64 ((rd_T24 l0_0 (rd ((rd_T24 l0_0 x3_1).f4) x6_2)).f0)) ∧ w'.cell? ⟨(ad337.add (((rd ((rd_T24 l0_0 x3_1).f4) x6_2)).toNat * 5)).block,(ad337.add (((rd ((rd_T24 l0_0 x3_1).f4) x6_2)).toNat * 5)).off + 1,none⟩ = some (.int .i64 ((rd_T24 l0_0 (rd ((rd_T24 l0_0 x3_1).f4) x6_2)).f1)) ∧ w'.cell? ⟨(ad337.add (((rd ((rd_T24 l0_0 x3_1).f4) x6_2)).toNat * 5)).block,(ad337.add (((rd ((rd_T24 l0_0 x3_1).f4) x6_2)).toNat * 5)).off + 2,none⟩ = some (.int .i64 ((rd_T24 l0_0 (rd ((rd_T24 l0_0 x3_1).f4) x6_2)).f2)) ∧ w'.cell? ⟨(ad337.add (((rd ((rd_T24 l0_0 x3_1).f4) x6_2)).toNat * 5)).block,(ad337.add (((rd ((rd_T24 l0_0 x3_1).f4) x6_2)).toNat * 5)).off + 3,none⟩ = some (.string ((rd_T24 l0_0 (rd ((rd_T24 l0_0 x3_1).f4) x6_2)).f3)) ∧ w'.cell? ⟨(ad337.add (((rd ((rd_T24 l0_0 x3_1).f4) x6_2)).toNat * 5)).block,(ad337.add (((rd ((rd_T24 l0_0 x3_1).f4) x6_2)).toNat * 5)).off + 4,none⟩ = some (.slice A340_4 ((rd_T24 l0_0 (rd ((rd_T24 l0_0 x3_1).f4) x6_2)).f4).length c340_4)) (ds:=[]) #[false,false,false,false,false,false,false,false,false,false,false,false,false,false] (by kernel_rfl) rfl rfl ⟨(zAf BK336.out 0).trans rfl,(zAf BK336.out 1).trans rfl,(zAf BK338.out 0).trans rfl,(zAf BK338.out 1).trans rfl,(zAf BK338.out 2).trans rfl,(zAf BK338.out 3).trans rfl,(zAf BK338.out 4).trans rfl,((HB.out.cell (World.block_lt_of_cell? w _ hw339_0)).trans hw339_0),((HB.out.cell (World.block_lt_of_cell? w _ hw340_0)).trans hw340_0),((HB.out.cell (World.block_lt_of_cell? w _ hw340_1)).trans hw340_1),((HB.out.cell (World.block_lt_of_cell? w _ hw340_2)).trans hw340_2),((HB.out.cell (World.block_lt_of_cell? w _ hw340_3)).trans hw340_3),((HB.out.cell (World.block_lt_of_cell? w _ hw340_4)).trans hw340_4)⟩ (fun hHeld => ?_); refine zBs zAw.tab9 zAw.bits9 (fun HT_ HW_ => ?_)
            generalize wr.drew = w16 at HO_5 BK336 BK338 HB HR340_4 hx339_0 hx340_0 hx340_1 hx340_2 hx340_3 hx340_4 hHeld ⊢
            refine pure_ (i:=0) (N:=some 29) (v:=?_) (a':=?_) #[true,false,false,false,false,false,false,false,false,false,false,false,false,false] rfl rfl (any_of HT_.out (by kernel_rfl)) (fun _ _ _ h => h) (Or.inl ⟨by rfl,?_⟩) ?_ ?_
            rotate_left
            ·intro w'
             go_simp
             with_reducible rfl
            rotate_left
            ·simp only [Act.put,List.setIfInBounds_toArray,List.set_cons_zero,List.set_cons_succ,i64_w,i32_w]
             rfl
            refine pure_ (i:=1) (N:=some 30) (v:=?_) (a':=?_) #[true,true,false,false,false,false,false,false,false,false,false,false,false,false] rfl rfl (any_of HT_.out (by kernel_rfl)) (fun _ _ _ h => h) (Or.inl ⟨by rfl,?_⟩) ?_ ?_
            rotate_left
            ·intro w'
             go_simp
             with_reducible rfl
            rotate_left
            ·simp only [Act.put,List.setIfInBounds_toArray,List.set_cons_zero,List.set_cons_succ,i64_w,i32_w]
             rfl
            refine pure_ (i:=3) (N:=some 32) (v:=?_) (a':=?_) #[true,true,false,true,false,false,false,false,false,false,false,false,false,false] rfl rfl (any_of HT_.out (by kernel_rfl)) (fun _ _ _ h => h) (Or.inl ⟨by rfl,?_⟩) ?_ ?_
            rotate_left
            ·intro w'
             go_simp
             with_reducible rfl
            rotate_left
            ·simp only [Act.put,List.setIfInBounds_toArray,List.set_cons_zero,List.set_cons_succ,i64_w,i32_w]
             rfl
            refine pure_ (i:=5) (N:=some 34) (v:=?_) (a':=?_) #[true,true,false,true,false,true,false,false,false,false,false,false,false,false] rfl rfl (any_of HT_.out (by kernel_rfl)) (fun _ _ _ h => h) (Or.inl ⟨by rfl,?_⟩) ?_ ?_
            rotate_left
            ·intro w'
             go_simp
             with_reducible rfl
            rotate_left
            ·simp only [Act.put,List.setIfInBounds_toArray,List.set_cons_zero,List.set_cons_succ,i64_w,i32_w]
             rfl
            refine take_ (i:=2) (N:=some 31) (v:=?_) (a':=?_) #[true,true,true,true,false,true,false,false,false,false,false,false,false,false] rfl rfl (zBb HT_.out HW_.out (by kernel_rfl)) (fun _ _ _ h => h) (Or.inl ⟨by rfl,?_⟩) hHeld ?_ ?_
            rotate_left
            ·rintro w' ⟨s0,s1,s2,s3,s4,s5,s6,s7,s8,s9,s10,s11,s12⟩
             go_simp
             with_reducible rfl
            rotate_left
            ·simp only [Act.put,List.setIfInBounds_toArray,List.set_cons_zero,List.set_cons_succ,i64_w,i32_w]
             rfl
            refine take_ (i:=4) (N:=some 33) (v:=?_) (a':=?_) #[true,true,true,true,true,true,false,false,false,false,false,false,false,false] rfl rfl (zBb HT_.out HW_.out (by kernel_rfl)) (fun _ _ _ h => h) (Or.inl ⟨by rfl,?_⟩) hHeld ?_ ?_
            rotate_left
            ·rintro w' ⟨s0,s1,s2,s3,s4,s5,s6,s7,s8,s9,s10,s11,s12⟩
             go_simp
             with_reducible rfl
            rotate_left
            ·simp only [Act.put,List.setIfInBounds_toArray,List.set_cons_zero,List.set_cons_succ,i64_w,i32_w]
             rfl
            refine pure_ (i:=6) (N:=some 35) (v:=?_) (a':=?_) #[true,true,true,true,true,true,true,false,false,false,false,false,false,false] rfl rfl (any_of HT_.out (by kernel_rfl)) (fun _ _ _ h => h) (Or.inl ⟨by rfl,?_⟩) ?_ ?_
            rotate_left
            ·intro w'
             go_simp
             with_reducible rfl
            rotate_left
            ·simp only [Act.put,List.setIfInBounds_toArray,List.set_cons_zero,List.set_cons_succ,i64_w,i32_w]
             rfl
            refine take_ (i:=7) (N:=some 36) (v:=?_) (a':=?_) #[true,true,true,true,true,true,true,true,false,false,false,false,false,false] rfl rfl (zBb HT_.out HW_.out (by kernel_rfl)) (fun _ _ _ h => h) (Or.inl ⟨by rfl,?_⟩) hHeld ?_ ?_
            rotate_left
            ·rintro w' ⟨s0,s1,s2,s3,s4,s5,s6,s7,s8,s9,s10,s11,s12⟩
             go_simp
             with_reducible rfl
            rotate_left
            ·simp only [Act.put,List.setIfInBounds_toArray,List.set_cons_zero,List.set_cons_succ,i64_w,i32_w]
             rfl
            refine pure_ (i:=8) (N:=some 37) (v:=?_) (a':=?_) #[true,true,true,true,true,true,true,true,true,false,false,false,false,false] rfl rfl (any_of HT_.out (by kernel_rfl)) (fun _ _ _ h => h) (Or.inl ⟨by rfl,?_⟩) ?_ ?_
            rotate_left
            ·intro w'
             go_simp
             with_reducible rfl
            rotate_left
            ·simp only [Act.put,List.setIfInBounds_toArray,List.set_cons_zero,List.set_cons_succ,i64_w,i32_w]
             rfl
            refine pure_ (i:=9) (N:=some 38) (v:=?_) (a':=?_) #[true,true,true,true,true,true,true,true,true,true,false,false,false,false] rfl rfl (any_of HT_.out (by kernel_rfl)) (fun _ _ _ h => h) (Or.inl ⟨by rfl,?_⟩) ?_ ?_
            rotate_left
            ·intro w'
             go_simp
             with_reducible rfl
            rotate_left
            ·simp only [Act.put,List.setIfInBounds_toArray,List.set_cons_zero,List.set_cons_succ,i64_w,i32_w]
             rfl
            refine take_ (i:=10) (N:=some 39) (v:=?_) (a':=?_) #[true,true,true,true,true,true,true,true,true,true,true,false,false,false] rfl rfl (zBb HT_.out HW_.out (by kernel_rfl)) (fun _ _ _ h => h) (Or.inl ⟨by rfl,?_⟩) hHeld ?_ ?_
            rotate_left
            ·rintro w' ⟨s0,s1,s2,s3,s4,s5,s6,s7,s8,s9,s10,s11,s12⟩
             go_simp
             with_reducible rfl
            rotate_left
            ·simp only [Act.put,List.setIfInBounds_toArray,List.set_cons_zero,List.set_cons_succ,i64_w,i32_w]
             rfl
            refine one_ (i:=11) (N:=some 40) #[true,true,true,true,true,true,true,true,true,true,true,true,false,false] rfl rfl (one_of HT_.out (by kernel_rfl)) (by decide) (fun K hK => ?_)
            refine value_ (w1:=?_) (v:=?_) (by rfl) rfl ?_ ?_
            rotate_left 2
            ·go_simp
             constructor
             ·rfl
             ·rfl
            refine hK.out _ _ ⟨(zAf (zAa BK336.out _) 0).trans rfl,(zAf (zAa BK336.out _) 1).trans rfl,(zAf (zAa BK338.out _) 0).trans rfl,(zAf (zAa BK338.out _) 1).trans rfl,(zAf (zAa BK338.out _) 2).trans rfl,(zAf (zAa BK338.out _) 3).trans rfl,(zAf (zAa BK338.out _) 4).trans rfl,(World.cell?_alloc_lt _ _ _ (World.block_lt_of_cell? _ _ (((HB.out.cell (World.block_lt_of_cell? w _ hw339_0)).trans hw339_0)))).trans (((HB.out.cell (World.block_lt_of_cell? w _ hw339_0)).trans hw339_0)),(World.cell?_alloc_lt _ _ _ (World.block_lt_of_cell? _ _ (((HB.out.cell (World.block_lt_of_cell? w _ hw340_0)).trans hw340_0)))).trans (((HB.out.cell (World.block_lt_of_cell? w _ hw340_0)).trans hw340_0)),(World.cell?_alloc_lt _ _ _ (World.block_lt_of_cell? _ _ (((HB.out.cell (World.block_lt_of_cell? w _ hw340_1)).trans hw340_1)))).trans (((HB.out.cell (World.block_lt_of_cell? w _ hw340_1)).trans hw340_1)),(World.cell?_alloc_lt _ _ _ (World.block_lt_of_cell? _ _ (((HB.out.cell (World.block_lt_of_cell? w _ hw340_2)).trans hw340_2)))).trans (((HB.out.cell (World.block_lt_of_cell? w _ hw340_2)).trans hw340_2)),(World.cell?_alloc_lt _ _ _ (World.block_lt_of_cell? _ _ (((HB.out.cell (World.block_lt_of_cell? w _ hw340_3)).trans hw340_3)))).trans (((HB.out.cell (World.block_lt_of_cell? w _ hw340_3)).trans hw340_3)),(World.cell?_alloc_lt _ _ _ (World.block_lt_of_cell? _ _ (((HB.out.cell (World.block_lt_of_cell? w _ hw340_4)).trans hw340_4)))).trans (((HB.out.cell (World.block_lt_of_cell? w _ hw340_4)).trans hw340_4))⟩ (fun hHeld => ?_)
            clear hK K
            refine norm_ (a':=?_) ?_ ?_
            rotate_left
            ·show Act.put _ (some 40) _ = _
             simp only [Act.put,List.setIfInBounds_toArray,List.set_cons_zero,List.set_cons_succ,i64_w,i32_w]
             rfl
            refine one_ (i:=12) (N:=some 41) #[true,true,true,true,true,true,true,true,true,true,true,true,true,false] rfl rfl (one_of HT_.out (by kernel_rfl)) (by decide) (fun K hK => ?_)
            refine Kd.R_append_step (Kd.int .i64) (w0:=w) w.heap.size (by rfl) (.tmp 29) (.tmp 40) 22 3 (.int .i64 0) 8 rfl Try.underlying22 info3 rfl (by decide) (by omega) u5 x5_2 ((rd_T24 l0_0 (rd ((rd_T24 l0_0 x3_1).f4) x6_2)).f0) [.int .i64 ((rd_T24 l0_0 (rd ((rd_T24 l0_0 x3_1).f4) x6_2)).f0)] (fun _ => True) (fun _ => False) rfl rfl ?aP (fun _ hk => hk.elim) ?aF ?aO ?aB ?aS ?aL ?_
            (case aP => exact rfl)
            (case aB => exact (by repeat (first | (with_reducible first | exact HB.out | apply zAg | apply zAc | apply zAi | refine zAh ?_ GE336.out | refine zAh ?_ GE338.out) | exact HB.out)))
            (case aF => exact (fun _ _ => trivial))
            (case aO => exact (by (with_reducible repeat (first | apply Kd.R_alloc | apply Kd.R_drewN | apply Kd.R_drew)); exact HO_5.out))
            (case aS => exact (zAp (by repeat (first | (with_reducible first | exact HB.out | apply zAg | apply zAc | apply zAi | refine zAh ?_ GE336.out | refine zAh ?_ GE338.out) | exact HB.out))))
            (case aL => have:=LMc13.out; omega)
            intro v342 w17 ho hb hg hat
            rw [← Ny341.out] at ho
            have n0_:=Aside0.mk (zAU (g:=gb336) (o:=.cells #[.slice (some ad337) l0_0.length c0_0,.int .i64 a0_1] 30 (0,0)) (by (with_reducible repeat (first | apply zAb | apply zAd | apply zAa)); exact BK336.out) hg (Kd.R_ne HO_5.out BK336.out (by decide)))
            have n1_:=Aside0.mk (zAU (g:=gb338) (o:=.cells #[.int .i64 ((rd_T24 l0_0 x3_1).f0),.int .i64 ((rd_T24 l0_0 x3_1).f1),.int .i64 ((rd_T24 l0_0 x3_1).f2),.string ((rd_T24 l0_0 x3_1).f3),.slice (some ad339) ((rd_T24 l0_0 x3_1).f4).length c337_4] 24 (0,0)) (by (with_reducible repeat (first | apply zAb | apply zAd | apply zAa)); exact BK338.out) hg (Kd.R_ne HO_5.out BK338.out (by decide)))
            have n2_:=Aside0.mk (hb)
            have n3_:=Aside0.mk (ho)
            clear BK336
            clear BK338
            clear HB
            clear HO_5
            have BK336:=n0_
            have BK338:=n1_
            have HB:=n2_
            have HO343:=n3_
            clear n0_ n1_ n2_ n3_
            clear ho hb hg hat
            refine hK.out _ _ ⟨(zAf BK336.out 0).trans rfl,(zAf BK336.out 1).trans rfl,(zAf BK338.out 0).trans rfl,(zAf BK338.out 1).trans rfl,(zAf BK338.out 2).trans rfl,(zAf BK338.out 3).trans rfl,(zAf BK338.out 4).trans rfl,((HB.out.cell (World.block_lt_of_cell? w _ hw339_0)).trans hw339_0),((HB.out.cell (World.block_lt_of_cell? w _ hw340_0)).trans hw340_0),((HB.out.cell (World.block_lt_of_cell? w _ hw340_1)).trans hw340_1),((HB.out.cell (World.block_lt_of_cell? w _ hw340_2)).trans hw340_2),((HB.out.cell (World.block_lt_of_cell? w _ hw340_3)).trans hw340_3),((HB.out.cell (World.block_lt_of_cell? w _ hw340_4)).trans hw340_4)⟩ (fun hHeld => ?_)
            clear hK K
            refine norm_ (a':=?_) ?_ ?_
            rotate_left
            ·show Act.put _ (some 41) _ = _
             simp only [Act.put,List.setIfInBounds_toArray,List.set_cons_zero,List.set_cons_succ,i64_w,i32_w]
             rfl
            refine pure_ (i:=13) (N:=some 5) (v:=?_) (a':=?_) #[true,true,true,true,true,true,true,true,true,true,true,true,true,true] rfl rfl (any_of HT_.out (by kernel_rfl)) (fun _ _ _ h => h) (Or.inl ⟨by rfl,?_⟩) ?_ ?_
            rotate_left
            ·intro w'
             go_simp
             with_reducible rfl
            rotate_left
            ·simp only [Act.put,List.setIfInBounds_toArray,List.set_cons_zero,List.set_cons_succ,i64_w,i32_w]
             rfl
            refine done_ (done_of HT_.out (by kernel_rfl)) ?_
            try go_wp2
            go_roundg k2
            case measure => have:=HK1.out; have:=HK2.out; omega
            case rel => exact ⟨(y341),(wrap64 (x6_2 + 1)),(by first | rfl | (simp; done) | (simp [*]; done)),H',⟨by have:=HK1.out; have:=HK2.out; omega⟩,⟨by (with_reducible repeat (first | apply Kd.R_alloc | apply Kd.R_drewN | apply Kd.R_drew)); exact HO343.out⟩,⟨by (with_reducible repeat (first | apply zAb | apply zAd | apply zAa)); exact BK336.out⟩,⟨by (with_reducible repeat (first | apply zAb | apply zAd | apply zAa)); exact BK338.out⟩,⟨by repeat (first | (with_reducible first | exact HB.out | apply zAg | apply zAc | apply zAi | refine zAh ?_ GE336.out | refine zAh ?_ GE338.out) | exact HB.out)⟩⟩
           ·rw [if_neg c13] at H
            exact absurd H (by simp)
          ·rw [if_neg c12] at H
           exact absurd H (by simp)
         ·rw [if_neg c11] at H
          exact absurd H (by simp)
        ·rw [if_neg c10] at H
         exact absurd H (by simp)
       ·rw [if_neg c9] at H
        have c9b0 : decide (x6_2 < (((rd_T24 l0_0 x3_1).f4).length : Int)) = false:=decide_eq_false c9
        clear c9
        replace H:=Option.bind_eq_some_iff.mp H
        obtain ⟨t344,A180,H⟩:=H
        replace H : ((zAE.f k2 ((rd_T24 l0_0 x3_1).f0) ((rd_T24 l0_0 x3_1).f1) ((rd_T24 l0_0 x3_1).f2) ((rd_T24 l0_0 x3_1).f3) ((rd_T24 l0_0 x3_1).f4)).bind fun t345 => ((zAk.f k2 ((rd_T24 l0_0 x3_1).f0) x5_2).bind fun t346 => (if ((rd_T24 l0_0 x3_1).f0) < 1 then (some false) else (if ((rd_T24 l0_0 x3_1).f0) > 27 then (some false) else (if t344 = true then (if t345 = true then (if t346 = true then (zAw.l0 k2 (wrap64 (x3_1 + 1)) l0_0 a0_1) else (some false)) else (some false)) else (some false)))))) = some r:=H
        have A18:=Aside0.mk A180
        clear A180
        replace H:=Option.bind_eq_some_iff.mp H
        obtain ⟨t345,A190,H⟩:=H
        replace H : ((zAk.f k2 ((rd_T24 l0_0 x3_1).f0) x5_2).bind fun t346 => (if ((rd_T24 l0_0 x3_1).f0) < 1 then (some false) else (if ((rd_T24 l0_0 x3_1).f0) > 27 then (some false) else (if t344 = true then (if t345 = true then (if t346 = true then (zAw.l0 k2 (wrap64 (x3_1 + 1)) l0_0 a0_1) else (some false)) else (some false)) else (some false))))) = some r:=H
        have A19:=Aside0.mk A190
        clear A190
        replace H:=Option.bind_eq_some_iff.mp H
        obtain ⟨t346,A200,H⟩:=H
        replace H : (if ((rd_T24 l0_0 x3_1).f0) < 1 then (some false) else (if ((rd_T24 l0_0 x3_1).f0) > 27 then (some false) else (if t344 = true then (if t345 = true then (if t346 = true then (zAw.l0 k2 (wrap64 (x3_1 + 1)) l0_0 a0_1) else (some false)) else (some false)) else (some false)))) = some r:=H
        have A20:=Aside0.mk A200
        clear A200
        by_cases c21 : ((rd_T24 l0_0 x3_1).f0) < 1
        ·rw [if_pos c21] at H
         have c21b0 : decide (((rd_T24 l0_0 x3_1).f0) < 1) = true:=decide_eq_true c21
         clear c21
         obtain rfl:=Option.some.inj H
         have hnb22:=NB338_336.out
         have hnc22:=NB336_338.out
         have hcz23_0 : wr.cell? ⟨gb338,0,none⟩ = some (.int .i64 ((rd_T24 l0_0 x3_1).f0)):=(zAf BK338.out 0).trans rfl
         have hcz23_1 : wr.cell? ⟨gb338,1,none⟩ = some (.int .i64 ((rd_T24 l0_0 x3_1).f1)):=(zAf BK338.out 1).trans rfl
         have hcz23_2 : wr.cell? ⟨gb338,2,none⟩ = some (.int .i64 ((rd_T24 l0_0 x3_1).f2)):=(zAf BK338.out 2).trans rfl
         have hcz23_3 : wr.cell? ⟨gb338,3,none⟩ = some (.string ((rd_T24 l0_0 x3_1).f3)):=(zAf BK338.out 3).trans rfl
         have hcz23_4 : wr.cell? ⟨gb338,4,none⟩ = some (.slice A337_4 ((rd_T24 l0_0 x3_1).f4).length c337_4):=(zAf BK338.out 4).trans rfl
         have hfz23_0:=zAe BK338.out 0
         have hfz23_1:=zAe BK338.out 1
         have hfz23_2:=zAe BK338.out 2
         have hfz23_3:=zAe BK338.out 3
         have hfz23_4:=zAe BK338.out 4
         go_wp2_with (first | ((with_reducible refine zAA (f:=47) rfl ?_); refine goesL_ (some 43) rfl rfl Try.func47 (by kernel_rfl) rfl #[.agg #[.int .i64 ((rd_T24 l0_0 x3_1).f0),.int .i64 ((rd_T24 l0_0 x3_1).f1),.int .i64 ((rd_T24 l0_0 x3_1).f2),.string ((rd_T24 l0_0 x3_1).f3),.slice A337_4 ((rd_T24 l0_0 x3_1).f4).length c337_4]] rfl (by (try simp only [List.map_toArray,List.map_cons,List.map_nil]); first | done | rfl | (simp only [List.length_drop,List.length_take]; rfl)) ?_; (with_reducible refine (zAr.calls k2 ((rd_T24 l0_0 x3_1).f0) ((rd_T24 l0_0 x3_1).f1) ((rd_T24 l0_0 x3_1).f2) ((rd_T24 l0_0 x3_1).f3) _ _ ((rd_T24 l0_0 x3_1).f4) t344 _ ?side1 ?side2 A18.out).mono ?_); (case side1 => repeat (first | exact (Kd.C_below HR337_4.out HB.out) | (with_reducible refine Kd.C_alloc ?_ _) | (with_reducible refine Kd.C_drewN ?_ _) | (with_reducible refine Kd.C_drew ?_))); (case side2 => exact HC337_4.out); rintro e w24 ⟨rfl,hb⟩; refine ⟨_,rfl,?_⟩; have n0_:=Aside0.mk (Kd.R_below (by (with_reducible repeat (first | apply Kd.R_alloc | apply Kd.R_drewN | apply Kd.R_drew)); exact HO_5.out) hb); have n1_:=Aside0.mk (zAs (g:=gb336) (o:=.cells #[.slice (some ad337) l0_0.length c0_0,.int .i64 a0_1] 30 (0,0)) (by (with_reducible repeat (first | apply zAb | apply zAd | apply zAa)); exact BK336.out) hb); have n2_:=Aside0.mk (zAs (g:=gb338) (o:=.cells #[.int .i64 ((rd_T24 l0_0 x3_1).f0),.int .i64 ((rd_T24 l0_0 x3_1).f1),.int .i64 ((rd_T24 l0_0 x3_1).f2),.string ((rd_T24 l0_0 x3_1).f3),.slice A337_4 ((rd_T24 l0_0 x3_1).f4).length c337_4] 24 (0,0)) (by (with_reducible repeat (first | apply zAb | apply zAd | apply zAa)); exact BK338.out) hb); have n3_:=Aside0.mk (zAm (by repeat (first | (with_reducible first | exact HB.out | apply zAg | apply zAc | apply zAi | refine zAh ?_ GE336.out | refine zAh ?_ GE338.out) | exact HB.out)) hb); clear HO_5; clear BK336; clear BK338; clear HB; have HO_5:=n0_; have BK336:=n1_; have BK338:=n2_; have HB:=n3_; clear n0_ n1_ n2_ n3_; (try clear hb); (try clear hb2); (try clear hk); (try clear hi); have hcz25_0 : w24.cell? ⟨gb338,0,none⟩ = some (.int .i64 ((rd_T24 l0_0 x3_1).f0)):=(zAf BK338.out 0).trans rfl; have hcz25_1 : w24.cell? ⟨gb338,1,none⟩ = some (.int .i64 ((rd_T24 l0_0 x3_1).f1)):=(zAf BK338.out 1).trans rfl; have hcz25_2 : w24.cell? ⟨gb338,2,none⟩ = some (.int .i64 ((rd_T24 l0_0 x3_1).f2)):=(zAf BK338.out 2).trans rfl; have hcz25_3 : w24.cell? ⟨gb338,3,none⟩ = some (.string ((rd_T24 l0_0 x3_1).f3)):=(zAf BK338.out 3).trans rfl; have hcz25_4 : w24.cell? ⟨gb338,4,none⟩ = some (.slice A337_4 ((rd_T24 l0_0 x3_1).f4).length c337_4):=(zAf BK338.out 4).trans rfl; have hfz25_0:=zAe BK338.out 0; have hfz25_1:=zAe BK338.out 1; have hfz25_2:=zAe BK338.out 2; have hfz25_3:=zAe BK338.out 3; have hfz25_4:=zAe BK338.out 4) | ((with_reducible refine zAA (f:=48) rfl ?_); refine goesL_ (some 45) rfl rfl Try.func48 (by kernel_rfl) rfl #[.agg #[.int .i64 ((rd_T24 l0_0 x3_1).f0),.int .i64 ((rd_T24 l0_0 x3_1).f1),.int .i64 ((rd_T24 l0_0 x3_1).f2),.string ((rd_T24 l0_0 x3_1).f3),.slice A337_4 ((rd_T24 l0_0 x3_1).f4).length c337_4]] rfl (by (try simp only [List.map_toArray,List.map_cons,List.map_nil]); first | done | rfl | (simp only [List.length_drop,List.length_take]; rfl)) ?_; (with_reducible refine (zAE.calls k2 ((rd_T24 l0_0 x3_1).f0) ((rd_T24 l0_0 x3_1).f1) ((rd_T24 l0_0 x3_1).f2) ((rd_T24 l0_0 x3_1).f3) _ _ ((rd_T24 l0_0 x3_1).f4) t345 _ ?side1 ?side2 A19.out).mono ?_); (case side1 => repeat (first | exact (Kd.C_below HR337_4.out HB.out) | (with_reducible refine Kd.C_alloc ?_ _) | (with_reducible refine Kd.C_drewN ?_ _) | (with_reducible refine Kd.C_drew ?_))); (case side2 => exact HC337_4.out); rintro e w26 ⟨rfl,hb⟩; refine ⟨_,rfl,?_⟩; have n0_:=Aside0.mk (Kd.R_below (by (with_reducible repeat (first | apply Kd.R_alloc | apply Kd.R_drewN | apply Kd.R_drew)); exact HO_5.out) hb); have n1_:=Aside0.mk (zAs (g:=gb336) (o:=.cells #[.slice (some ad337) l0_0.length c0_0,.int .i64 a0_1] 30 (0,0)) (by (with_reducible repeat (first | apply zAb | apply zAd | apply zAa)); exact BK336.out) hb); have n2_:=Aside0.mk (zAs (g:=gb338) (o:=.cells #[.int .i64 ((rd_T24 l0_0 x3_1).f0),.int .i64 ((rd_T24 l0_0 x3_1).f1),.int .i64 ((rd_T24 l0_0 x3_1).f2),.string ((rd_T24 l0_0 x3_1).f3),.slice A337_4 ((rd_T24 l0_0 x3_1).f4).length c337_4] 24 (0,0)) (by (with_reducible repeat (first | apply zAb | apply zAd | apply zAa)); exact BK338.out) hb); have n3_:=Aside0.mk (zAm (by repeat (first | (with_reducible first | exact HB.out | apply zAg | apply zAc | apply zAi | refine zAh ?_ GE336.out | refine zAh ?_ GE338.out) | exact HB.out)) hb); clear HO_5; clear BK336; clear BK338; clear HB; have HO_5:=n0_; have BK336:=n1_; have BK338:=n2_; have HB:=n3_; clear n0_ n1_ n2_ n3_; (try clear hb); (try clear hb2); (try clear hk); (try clear hi); have hcz27_0 : w26.cell? ⟨gb338,0,none⟩ = some (.int .i64 ((rd_T24 l0_0 x3_1).f0)):=(zAf BK338.out 0).trans rfl; have hcz27_1 : w26.cell? ⟨gb338,1,none⟩ = some (.int .i64 ((rd_T24 l0_0 x3_1).f1)):=(zAf BK338.out 1).trans rfl; have hcz27_2 : w26.cell? ⟨gb338,2,none⟩ = some (.int .i64 ((rd_T24 l0_0 x3_1).f2)):=(zAf BK338.out 2).trans rfl; have hcz27_3 : w26.cell? ⟨gb338,3,none⟩ = some (.string ((rd_T24 l0_0 x3_1).f3)):=(zAf BK338.out 3).trans rfl; have hcz27_4 : w26.cell? ⟨gb338,4,none⟩ = some (.slice A337_4 ((rd_T24 l0_0 x3_1).f4).length c337_4):=(zAf BK338.out 4).trans rfl; have hfz27_0:=zAe BK338.out 0; have hfz27_1:=zAe BK338.out 1; have hfz27_2:=zAe BK338.out 2; have hfz27_3:=zAe BK338.out 3; have hfz27_4:=zAe BK338.out 4; obtain ⟨Ao28,co28,eo28⟩:=Kd.R_slice HO_5.out; subst eo28) | ((with_reducible refine zAA (f:=49) rfl ?_); refine goesL_ (some 49) rfl rfl Try.func49 (by kernel_rfl) rfl #[.int .i64 ((rd_T24 l0_0 x3_1).f0),.slice Ao28 x5_2.length co28] rfl (by (try simp only [List.map_toArray,List.map_cons,List.map_nil]); first | done | rfl | (simp only [List.length_drop,List.length_take]; rfl)) ?_; (with_reducible refine (zAk.calls k2 ((rd_T24 l0_0 x3_1).f0) _ _ x5_2 t346 _ ?side1 ?side2 A20.out).mono ?_); (case side1 => repeat (first | exact (Kd.zAV HO_5.out).2.2 | (with_reducible refine Kd.C_alloc ?_ _) | (with_reducible refine Kd.C_drewN ?_ _) | (with_reducible refine Kd.C_drew ?_))); (case side2 => exact (Kd.zAV HO_5.out).2.1); rintro e w' ⟨rfl,⟨nd,rfl⟩⟩; refine ⟨_,rfl,?_⟩))
         go_ret
         exact ⟨by first | rfl | (simp [zAo,zAn] <;> rfl) | (simp [*,zAo,zAn] <;> rfl),by repeat (first | (with_reducible first | exact HB.out | apply zAg | apply zAc | apply zAi | refine zAh ?_ GE336.out | refine zAh ?_ GE338.out) | exact HB.out)⟩
        ·rw [if_neg c21] at H
         have c21b0 : decide (((rd_T24 l0_0 x3_1).f0) < 1) = false:=decide_eq_false c21
         clear c21
         by_cases c29 : ((rd_T24 l0_0 x3_1).f0) > 27
         ·rw [if_pos c29] at H
          have c29b0 : decide (27 < ((rd_T24 l0_0 x3_1).f0)) = true:=decide_eq_true c29
          clear c29
          obtain rfl:=Option.some.inj H
          have hnb30:=NB338_336.out
          have hnc30:=NB336_338.out
          have hcz31_0 : wr.cell? ⟨gb338,0,none⟩ = some (.int .i64 ((rd_T24 l0_0 x3_1).f0)):=(zAf BK338.out 0).trans rfl
          have hcz31_1 : wr.cell? ⟨gb338,1,none⟩ = some (.int .i64 ((rd_T24 l0_0 x3_1).f1)):=(zAf BK338.out 1).trans rfl
          have hcz31_2 : wr.cell? ⟨gb338,2,none⟩ = some (.int .i64 ((rd_T24 l0_0 x3_1).f2)):=(zAf BK338.out 2).trans rfl
          have hcz31_3 : wr.cell? ⟨gb338,3,none⟩ = some (.string ((rd_T24 l0_0 x3_1).f3)):=(zAf BK338.out 3).trans rfl
          have hcz31_4 : wr.cell? ⟨gb338,4,none⟩ = some (.slice A337_4 ((rd_T24 l0_0 x3_1).f4).length c337_4):=(zAf BK338.out 4).trans rfl
          have hfz31_0:=zAe BK338.out 0
          have hfz31_1:=zAe BK338.out 1
          have hfz31_2:=zAe BK338.out 2
          have hfz31_3:=zAe BK338.out 3
          have hfz31_4:=zAe BK338.out 4
          go_wp2_with (first | ((with_reducible refine zAA (f:=47) rfl ?_); refine goesL_ (some 43) rfl rfl Try.func47 (by kernel_rfl) rfl #[.agg #[.int .i64 ((rd_T24 l0_0 x3_1).f0),.int .i64 ((rd_T24 l0_0 x3_1).f1),.int .i64 ((rd_T24 l0_0 x3_1).f2),.string ((rd_T24 l0_0 x3_1).f3),.slice A337_4 ((rd_T24 l0_0 x3_1).f4).length c337_4]] rfl (by (try simp only [List.map_toArray,List.map_cons,List.map_nil]); first | done | rfl | (simp only [List.length_drop,List.length_take]; rfl)) ?_; (with_reducible refine (zAr.calls k2 ((rd_T24 l0_0 x3_1).f0) ((rd_T24 l0_0 x3_1).f1) ((rd_T24 l0_0 x3_1).f2) ((rd_T24 l0_0 x3_1).f3) _ _ ((rd_T24 l0_0 x3_1).f4) t344 _ ?side1 ?side2 A18.out).mono ?_); (case side1 => repeat (first | exact (Kd.C_below HR337_4.out HB.out) | (with_reducible refine Kd.C_alloc ?_ _) | (with_reducible refine Kd.C_drewN ?_ _) | (with_reducible refine Kd.C_drew ?_))); (case side2 => exact HC337_4.out); rintro e w32 ⟨rfl,hb⟩; refine ⟨_,rfl,?_⟩; have n0_:=Aside0.mk (Kd.R_below (by (with_reducible repeat (first | apply Kd.R_alloc | apply Kd.R_drewN | apply Kd.R_drew)); exact HO_5.out) hb); have n1_:=Aside0.mk (zAs (g:=gb336) (o:=.cells #[.slice (some ad337) l0_0.length c0_0,.int .i64 a0_1] 30 (0,0)) (by (with_reducible repeat (first | apply zAb | apply zAd | apply zAa)); exact BK336.out) hb); have n2_:=Aside0.mk (zAs (g:=gb338) (o:=.cells #[.int .i64 ((rd_T24 l0_0 x3_1).f0),.int .i64 ((rd_T24 l0_0 x3_1).f1),.int .i64 ((rd_T24 l0_0 x3_1).f2),.string ((rd_T24 l0_0 x3_1).f3),.slice A337_4 ((rd_T24 l0_0 x3_1).f4).length c337_4] 24 (0,0)) (by (with_reducible repeat (first | apply zAb | apply zAd | apply zAa)); exact BK338.out) hb); have n3_:=Aside0.mk (zAm (by repeat (first | (with_reducible first | exact HB.out | apply zAg | apply zAc | apply zAi | refine zAh ?_ GE336.out | refine zAh ?_ GE338.out) | exact HB.out)) hb); clear HO_5; clear BK336; clear BK338; clear HB; have HO_5:=n0_; have BK336:=n1_; have BK338:=n2_; have HB:=n3_; clear n0_ n1_ n2_ n3_; (try clear hb); (try clear hb2); (try clear hk); (try clear hi); have hcz33_0 : w32.cell? ⟨gb338,0,none⟩ = some (.int .i64 ((rd_T24 l0_0 x3_1).f0)):=(zAf BK338.out 0).trans rfl; have hcz33_1 : w32.cell? ⟨gb338,1,none⟩ = some (.int .i64 ((rd_T24 l0_0 x3_1).f1)):=(zAf BK338.out 1).trans rfl; have hcz33_2 : w32.cell? ⟨gb338,2,none⟩ = some (.int .i64 ((rd_T24 l0_0 x3_1).f2)):=(zAf BK338.out 2).trans rfl; have hcz33_3 : w32.cell? ⟨gb338,3,none⟩ = some (.string ((rd_T24 l0_0 x3_1).f3)):=(zAf BK338.out 3).trans rfl; have hcz33_4 : w32.cell? ⟨gb338,4,none⟩ = some (.slice A337_4 ((rd_T24 l0_0 x3_1).f4).length c337_4):=(zAf BK338.out 4).trans rfl; have hfz33_0:=zAe BK338.out 0; have hfz33_1:=zAe BK338.out 1; have hfz33_2:=zAe BK338.out 2; have hfz33_3:=zAe BK338.out 3; have hfz33_4:=zAe BK338.out 4) | ((with_reducible refine zAA (f:=48) rfl ?_); refine goesL_ (some 45) rfl rfl Try.func48 (by kernel_rfl) rfl #[.agg #[.int .i64 ((rd_T24 l0_0 x3_1).f0),.int .i64 ((rd_T24 l0_0 x3_1).f1),.int .i64 ((rd_T24 l0_0 x3_1).f2),.string ((rd_T24 l0_0 x3_1).f3),.slice A337_4 ((rd_T24 l0_0 x3_1).f4).length c337_4]] rfl (by (try simp only [List.map_toArray,List.map_cons,List.map_nil]); first | done | rfl | (simp only [List.length_drop,List.length_take]; rfl)) ?_; (with_reducible refine (zAE.calls k2 ((rd_T24 l0_0 x3_1).f0) ((rd_T24 l0_0 x3_1).f1) ((rd_T24 l0_0 x3_1).f2) ((rd_T24 l0_0 x3_1).f3) _ _ ((rd_T24 l0_0 x3_1).f4) t345 _ ?side1 ?side2 A19.out).mono ?_); (case side1 => repeat (first | exact (Kd.C_below HR337_4.out HB.out) | (with_reducible refine Kd.C_alloc ?_ _) | (with_reducible refine Kd.C_drewN ?_ _) | (with_reducible refine Kd.C_drew ?_))); (case side2 => exact HC337_4.out); rintro e w34 ⟨rfl,hb⟩; refine ⟨_,rfl,?_⟩; have n0_:=Aside0.mk (Kd.R_below (by (with_reducible repeat (first | apply Kd.R_alloc | apply Kd.R_drewN | apply Kd.R_drew)); exact HO_5.out) hb); have n1_:=Aside0.mk (zAs (g:=gb336) (o:=.cells #[.slice (some ad337) l0_0.length c0_0,.int .i64 a0_1] 30 (0,0)) (by (with_reducible repeat (first | apply zAb | apply zAd | apply zAa)); exact BK336.out) hb); have n2_:=Aside0.mk (zAs (g:=gb338) (o:=.cells #[.int .i64 ((rd_T24 l0_0 x3_1).f0),.int .i64 ((rd_T24 l0_0 x3_1).f1),.int .i64 ((rd_T24 l0_0 x3_1).f2),.string ((rd_T24 l0_0 x3_1).f3),.slice A337_4 ((rd_T24 l0_0 x3_1).f4).length c337_4] 24 (0,0)) (by (with_reducible repeat (first | apply zAb | apply zAd | apply zAa)); exact BK338.out) hb); have n3_:=Aside0.mk (zAm (by repeat (first | (with_reducible first | exact HB.out | apply zAg | apply zAc | apply zAi | refine zAh ?_ GE336.out | refine zAh ?_ GE338.out) | exact HB.out)) hb); clear HO_5; clear BK336; clear BK338; clear HB; have HO_5:=n0_; have BK336:=n1_; have BK338:=n2_; have HB:=n3_; clear n0_ n1_ n2_ n3_; (try clear hb); (try clear hb2); (try clear hk); (try clear hi); have hcz35_0 : w34.cell? ⟨gb338,0,none⟩ = some (.int .i64 ((rd_T24 l0_0 x3_1).f0)):=(zAf BK338.out 0).trans rfl; have hcz35_1 : w34.cell? ⟨gb338,1,none⟩ = some (.int .i64 ((rd_T24 l0_0 x3_1).f1)):=(zAf BK338.out 1).trans rfl; have hcz35_2 : w34.cell? ⟨gb338,2,none⟩ = some (.int .i64 ((rd_T24 l0_0 x3_1).f2)):=(zAf BK338.out 2).trans rfl; have hcz35_3 : w34.cell? ⟨gb338,3,none⟩ = some (.string ((rd_T24 l0_0 x3_1).f3)):=(zAf BK338.out 3).trans rfl; have hcz35_4 : w34.cell? ⟨gb338,4,none⟩ = some (.slice A337_4 ((rd_T24 l0_0 x3_1).f4).length c337_4):=(zAf BK338.out 4).trans rfl; have hfz35_0:=zAe BK338.out 0; have hfz35_1:=zAe BK338.out 1; have hfz35_2:=zAe BK338.out 2; have hfz35_3:=zAe BK338.out 3; have hfz35_4:=zAe BK338.out 4; obtain ⟨Ao36,co36,eo36⟩:=Kd.R_slice HO_5.out; subst eo36) | ((with_reducible refine zAA (f:=49) rfl ?_); refine goesL_ (some 49) rfl rfl Try.func49 (by kernel_rfl) rfl #[.int .i64 ((rd_T24 l0_0 x3_1).f0),.slice Ao36 x5_2.length co36] rfl (by (try simp only [List.map_toArray,List.map_cons,List.map_nil]); first | done | rfl | (simp only [List.length_drop,List.length_take]; rfl)) ?_; (with_reducible refine (zAk.calls k2 ((rd_T24 l0_0 x3_1).f0) _ _ x5_2 t346 _ ?side1 ?side2 A20.out).mono ?_); (case side1 => repeat (first | exact (Kd.zAV HO_5.out).2.2 | (with_reducible refine Kd.C_alloc ?_ _) | (with_reducible refine Kd.C_drewN ?_ _) | (with_reducible refine Kd.C_drew ?_))); (case side2 => exact (Kd.zAV HO_5.out).2.1); rintro e w' ⟨rfl,⟨nd,rfl⟩⟩; refine ⟨_,rfl,?_⟩))
          go_ret
          exact ⟨by first | rfl | (simp [zAo,zAn] <;> rfl) | (simp [*,zAo,zAn] <;> rfl),by repeat (first | (with_reducible first | exact HB.out | apply zAg | apply zAc | apply zAi | refine zAh ?_ GE336.out | refine zAh ?_ GE338.out) | exact HB.out)⟩
         ·rw [if_neg c29] at H
          have c29b0 : decide (27 < ((rd_T24 l0_0 x3_1).f0)) = false:=decide_eq_false c29
          clear c29
          by_cases c37 : t344 = true
          ·subst c37
           have H1 : (if t345 = true then (if t346 = true then (zAw.l0 k2 (wrap64 (x3_1 + 1)) l0_0 a0_1) else (some false)) else (some false)) = some r:=by rw [if_pos rfl] at H; exact H
           clear H
           have H:=H1
           clear H1
           by_cases c38 : t345 = true
           ·subst c38
            have H1 : (if t346 = true then (zAw.l0 k2 (wrap64 (x3_1 + 1)) l0_0 a0_1) else (some false)) = some r:=by rw [if_pos rfl] at H; exact H
            clear H
            have H:=H1
            clear H1
            by_cases c39 : t346 = true
            ·subst c39
             have H1 : (zAw.l0 k2 (wrap64 (x3_1 + 1)) l0_0 a0_1) = some r:=by rw [if_pos rfl] at H; exact H
             clear H
             have H:=H1
             clear H1
             have H':=Aside0.mk H
             clear H
             have hnb40:=NB338_336.out
             have hnc40:=NB336_338.out
             have hcz41_0 : wr.cell? ⟨gb338,0,none⟩ = some (.int .i64 ((rd_T24 l0_0 x3_1).f0)):=(zAf BK338.out 0).trans rfl
             have hcz41_1 : wr.cell? ⟨gb338,1,none⟩ = some (.int .i64 ((rd_T24 l0_0 x3_1).f1)):=(zAf BK338.out 1).trans rfl
             have hcz41_2 : wr.cell? ⟨gb338,2,none⟩ = some (.int .i64 ((rd_T24 l0_0 x3_1).f2)):=(zAf BK338.out 2).trans rfl
             have hcz41_3 : wr.cell? ⟨gb338,3,none⟩ = some (.string ((rd_T24 l0_0 x3_1).f3)):=(zAf BK338.out 3).trans rfl
             have hcz41_4 : wr.cell? ⟨gb338,4,none⟩ = some (.slice A337_4 ((rd_T24 l0_0 x3_1).f4).length c337_4):=(zAf BK338.out 4).trans rfl
             have hfz41_0:=zAe BK338.out 0
             have hfz41_1:=zAe BK338.out 1
             have hfz41_2:=zAe BK338.out 2
             have hfz41_3:=zAe BK338.out 3
             have hfz41_4:=zAe BK338.out 4
             go_wp2_with (first | ((with_reducible refine zAA (f:=47) rfl ?_); refine goesL_ (some 43) rfl rfl Try.func47 (by kernel_rfl) rfl #[.agg #[.int .i64 ((rd_T24 l0_0 x3_1).f0),.int .i64 ((rd_T24 l0_0 x3_1).f1),.int .i64 ((rd_T24 l0_0 x3_1).f2),.string ((rd_T24 l0_0 x3_1).f3),.slice A337_4 ((rd_T24 l0_0 x3_1).f4).length c337_4]] rfl (by (try simp only [List.map_toArray,List.map_cons,List.map_nil]); first | done | rfl | (simp only [List.length_drop,List.length_take]; rfl)) ?_; (with_reducible refine (zAr.calls k2 ((rd_T24 l0_0 x3_1).f0) ((rd_T24 l0_0 x3_1).f1) ((rd_T24 l0_0 x3_1).f2) ((rd_T24 l0_0 x3_1).f3) _ _ ((rd_T24 l0_0 x3_1).f4) true _ ?side1 ?side2 A18.out).mono ?_); (case side1 => repeat (first | exact (Kd.C_below HR337_4.out HB.out) | (with_reducible refine Kd.C_alloc ?_ _) | (with_reducible refine Kd.C_drewN ?_ _) | (with_reducible refine Kd.C_drew ?_))); (case side2 => exact HC337_4.out); rintro e w42 ⟨rfl,hb⟩; refine ⟨_,rfl,?_⟩; have n0_:=Aside0.mk (Kd.R_below (by (with_reducible repeat (first | apply Kd.R_alloc | apply Kd.R_drewN | apply Kd.R_drew)); exact HO_5.out) hb); have n1_:=Aside0.mk (zAs (g:=gb336) (o:=.cells #[.slice (some ad337) l0_0.length c0_0,.int .i64 a0_1] 30 (0,0)) (by (with_reducible repeat (first | apply zAb | apply zAd | apply zAa)); exact BK336.out) hb); have n2_:=Aside0.mk (zAs (g:=gb338) (o:=.cells #[.int .i64 ((rd_T24 l0_0 x3_1).f0),.int .i64 ((rd_T24 l0_0 x3_1).f1),.int .i64 ((rd_T24 l0_0 x3_1).f2),.string ((rd_T24 l0_0 x3_1).f3),.slice A337_4 ((rd_T24 l0_0 x3_1).f4).length c337_4] 24 (0,0)) (by (with_reducible repeat (first | apply zAb | apply zAd | apply zAa)); exact BK338.out) hb); have n3_:=Aside0.mk (zAm (by repeat (first | (with_reducible first | exact HB.out | apply zAg | apply zAc | apply zAi | refine zAh ?_ GE336.out | refine zAh ?_ GE338.out) | exact HB.out)) hb); clear HO_5; clear BK336; clear BK338; clear HB; have HO_5:=n0_; have BK336:=n1_; have BK338:=n2_; have HB:=n3_; clear n0_ n1_ n2_ n3_; (try clear hb); (try clear hb2); (try clear hk); (try clear hi); have hcz43_0 : w42.cell? ⟨gb338,0,none⟩ = some (.int .i64 ((rd_T24 l0_0 x3_1).f0)):=(zAf BK338.out 0).trans rfl; have hcz43_1 : w42.cell? ⟨gb338,1,none⟩ = some (.int .i64 ((rd_T24 l0_0 x3_1).f1)):=(zAf BK338.out 1).trans rfl; have hcz43_2 : w42.cell? ⟨gb338,2,none⟩ = some (.int .i64 ((rd_T24 l0_0 x3_1).f2)):=(zAf BK338.out 2).trans rfl; have hcz43_3 : w42.cell? ⟨gb338,3,none⟩ = some (.string ((rd_T24 l0_0 x3_1).f3)):=(zAf BK338.out 3).trans rfl; have hcz43_4 : w42.cell? ⟨gb338,4,none⟩ = some (.slice A337_4 ((rd_T24 l0_0 x3_1).f4).length c337_4):=(zAf BK338.out 4).trans rfl; have hfz43_0:=zAe BK338.out 0; have hfz43_1:=zAe BK338.out 1; have hfz43_2:=zAe BK338.out 2; have hfz43_3:=zAe BK338.out 3; have hfz43_4:=zAe BK338.out 4) | ((with_reducible refine zAA (f:=48) rfl ?_); refine goesL_ (some 45) rfl rfl Try.func48 (by kernel_rfl) rfl #[.agg #[.int .i64 ((rd_T24 l0_0 x3_1).f0),.int .i64 ((rd_T24 l0_0 x3_1).f1),.int .i64 ((rd_T24 l0_0 x3_1).f2),.string ((rd_T24 l0_0 x3_1).f3),.slice A337_4 ((rd_T24 l0_0 x3_1).f4).length c337_4]] rfl (by (try simp only [List.map_toArray,List.map_cons,List.map_nil]); first | done | rfl | (simp only [List.length_drop,List.length_take]; rfl)) ?_; (with_reducible refine (zAE.calls k2 ((rd_T24 l0_0 x3_1).f0) ((rd_T24 l0_0 x3_1).f1) ((rd_T24 l0_0 x3_1).f2) ((rd_T24 l0_0 x3_1).f3) _ _ ((rd_T24 l0_0 x3_1).f4) true _ ?side1 ?side2 A19.out).mono ?_); (case side1 => repeat (first | exact (Kd.C_below HR337_4.out HB.out) | (with_reducible refine Kd.C_alloc ?_ _) | (with_reducible refine Kd.C_drewN ?_ _) | (with_reducible refine Kd.C_drew ?_))); (case side2 => exact HC337_4.out); rintro e w44 ⟨rfl,hb⟩; refine ⟨_,rfl,?_⟩; have n0_:=Aside0.mk (Kd.R_below (by (with_reducible repeat (first | apply Kd.R_alloc | apply Kd.R_drewN | apply Kd.R_drew)); exact HO_5.out) hb); have n1_:=Aside0.mk (zAs (g:=gb336) (o:=.cells #[.slice (some ad337) l0_0.length c0_0,.int .i64 a0_1] 30 (0,0)) (by (with_reducible repeat (first | apply zAb | apply zAd | apply zAa)); exact BK336.out) hb); have n2_:=Aside0.mk (zAs (g:=gb338) (o:=.cells #[.int .i64 ((rd_T24 l0_0 x3_1).f0),.int .i64 ((rd_T24 l0_0 x3_1).f1),.int .i64 ((rd_T24 l0_0 x3_1).f2),.string ((rd_T24 l0_0 x3_1).f3),.slice A337_4 ((rd_T24 l0_0 x3_1).f4).length c337_4] 24 (0,0)) (by (with_reducible repeat (first | apply zAb | apply zAd | apply zAa)); exact BK338.out) hb); have n3_:=Aside0.mk (zAm (by repeat (first | (with_reducible first | exact HB.out | apply zAg | apply zAc | apply zAi | refine zAh ?_ GE336.out | refine zAh ?_ GE338.out) | exact HB.out)) hb); clear HO_5; clear BK336; clear BK338; clear HB; have HO_5:=n0_; have BK336:=n1_; have BK338:=n2_; have HB:=n3_; clear n0_ n1_ n2_ n3_; (try clear hb); (try clear hb2); (try clear hk); (try clear hi); have hcz45_0 : w44.cell? ⟨gb338,0,none⟩ = some (.int .i64 ((rd_T24 l0_0 x3_1).f0)):=(zAf BK338.out 0).trans rfl; have hcz45_1 : w44.cell? ⟨gb338,1,none⟩ = some (.int .i64 ((rd_T24 l0_0 x3_1).f1)):=(zAf BK338.out 1).trans rfl; have hcz45_2 : w44.cell? ⟨gb338,2,none⟩ = some (.int .i64 ((rd_T24 l0_0 x3_1).f2)):=(zAf BK338.out 2).trans rfl; have hcz45_3 : w44.cell? ⟨gb338,3,none⟩ = some (.string ((rd_T24 l0_0 x3_1).f3)):=(zAf BK338.out 3).trans rfl; have hcz45_4 : w44.cell? ⟨gb338,4,none⟩ = some (.slice A337_4 ((rd_T24 l0_0 x3_1).f4).length c337_4):=(zAf BK338.out 4).trans rfl; have hfz45_0:=zAe BK338.out 0; have hfz45_1:=zAe BK338.out 1; have hfz45_2:=zAe BK338.out 2; have hfz45_3:=zAe BK338.out 3; have hfz45_4:=zAe BK338.out 4; obtain ⟨Ao46,co46,eo46⟩:=Kd.R_slice HO_5.out; subst eo46) | ((with_reducible refine zAA (f:=49) rfl ?_); refine goesL_ (some 49) rfl rfl Try.func49 (by kernel_rfl) rfl #[.int .i64 ((rd_T24 l0_0 x3_1).f0),.slice Ao46 x5_2.length co46] rfl (by (try simp only [List.map_toArray,List.map_cons,List.map_nil]); first | done | rfl | (simp only [List.length_drop,List.length_take]; rfl)) ?_; (with_reducible refine (zAk.calls k2 ((rd_T24 l0_0 x3_1).f0) _ _ x5_2 true _ ?side1 ?side2 A20.out).mono ?_); (case side1 => repeat (first | exact (Kd.zAV HO_5.out).2.2 | (with_reducible refine Kd.C_alloc ?_ _) | (with_reducible refine Kd.C_drewN ?_ _) | (with_reducible refine Kd.C_drew ?_))); (case side2 => exact (Kd.zAV HO_5.out).2.1); rintro e w' ⟨rfl,⟨nd,rfl⟩⟩; refine ⟨_,rfl,?_⟩))
             go_roundg k2
             case measure => have:=HK1.out; have:=HK2.out; omega
             case rel => exact ⟨(wrap64 (x3_1 + 1)),(by first | rfl | (simp; done) | (simp [*]; done)),H',⟨by have:=HK1.out; have:=HK2.out; omega⟩,⟨by (with_reducible repeat (first | apply zAb | apply zAd | apply zAa)); exact BK336.out⟩,⟨by repeat (first | (with_reducible first | exact HB.out | apply zAg | apply zAc | apply zAi | refine zAh ?_ GE336.out | refine zAh ?_ GE338.out) | exact HB.out)⟩⟩
            ·replace c39:=Bool.eq_false_iff.mpr c39
             subst c39
             have H1 : (some false) = some r:=by rw [if_neg (show ¬ (false = true) by decide)] at H; exact H
             clear H
             have H:=H1
             clear H1
             obtain rfl:=Option.some.inj H
             have hnb47:=NB338_336.out
             have hnc47:=NB336_338.out
             have hcz48_0 : wr.cell? ⟨gb338,0,none⟩ = some (.int .i64 ((rd_T24 l0_0 x3_1).f0)):=(zAf BK338.out 0).trans rfl
             have hcz48_1 : wr.cell? ⟨gb338,1,none⟩ = some (.int .i64 ((rd_T24 l0_0 x3_1).f1)):=(zAf BK338.out 1).trans rfl
             have hcz48_2 : wr.cell? ⟨gb338,2,none⟩ = some (.int .i64 ((rd_T24 l0_0 x3_1).f2)):=(zAf BK338.out 2).trans rfl
             have hcz48_3 : wr.cell? ⟨gb338,3,none⟩ = some (.string ((rd_T24 l0_0 x3_1).f3)):=(zAf BK338.out 3).trans rfl
             have hcz48_4 : wr.cell? ⟨gb338,4,none⟩ = some (.slice A337_4 ((rd_T24 l0_0 x3_1).f4).length c337_4):=(zAf BK338.out 4).trans rfl
             have hfz48_0:=zAe BK338.out 0
             have hfz48_1:=zAe BK338.out 1
             have hfz48_2:=zAe BK338.out 2
             have hfz48_3:=zAe BK338.out 3
             have hfz48_4:=zAe BK338.out 4
             go_wp2_with (first | ((with_reducible refine zAA (f:=47) rfl ?_); refine goesL_ (some 43) rfl rfl Try.func47 (by kernel_rfl) rfl #[.agg #[.int .i64 ((rd_T24 l0_0 x3_1).f0),.int .i64 ((rd_T24 l0_0 x3_1).f1),.int .i64 ((rd_T24 l0_0 x3_1).f2),.string ((rd_T24 l0_0 x3_1).f3),.slice A337_4 ((rd_T24 l0_0 x3_1).f4).length c337_4]] rfl (by (try simp only [List.map_toArray,List.map_cons,List.map_nil]); first | done | rfl | (simp only [List.length_drop,List.length_take]; rfl)) ?_; (with_reducible refine (zAr.calls k2 ((rd_T24 l0_0 x3_1).f0) ((rd_T24 l0_0 x3_1).f1) ((rd_T24 l0_0 x3_1).f2) ((rd_T24 l0_0 x3_1).f3) _ _ ((rd_T24 l0_0 x3_1).f4) true _ ?side1 ?side2 A18.out).mono ?_); (case side1 => repeat (first | exact (Kd.C_below HR337_4.out HB.out) | (with_reducible refine Kd.C_alloc ?_ _) | (with_reducible refine Kd.C_drewN ?_ _) | (with_reducible refine Kd.C_drew ?_))); (case side2 => exact HC337_4.out); rintro e w49 ⟨rfl,hb⟩; refine ⟨_,rfl,?_⟩; have n0_:=Aside0.mk (Kd.R_below (by (with_reducible repeat (first | apply Kd.R_alloc | apply Kd.R_drewN | apply Kd.R_drew)); exact HO_5.out) hb); have n1_:=Aside0.mk (zAs (g:=gb336) (o:=.cells #[.slice (some ad337) l0_0.length c0_0,.int .i64 a0_1] 30 (0,0)) (by (with_reducible repeat (first | apply zAb | apply zAd | apply zAa)); exact BK336.out) hb); have n2_:=Aside0.mk (zAs (g:=gb338) (o:=.cells #[.int .i64 ((rd_T24 l0_0 x3_1).f0),.int .i64 ((rd_T24 l0_0 x3_1).f1),.int .i64 ((rd_T24 l0_0 x3_1).f2),.string ((rd_T24 l0_0 x3_1).f3),.slice A337_4 ((rd_T24 l0_0 x3_1).f4).length c337_4] 24 (0,0)) (by (with_reducible repeat (first | apply zAb | apply zAd | apply zAa)); exact BK338.out) hb); have n3_:=Aside0.mk (zAm (by repeat (first | (with_reducible first | exact HB.out | apply zAg | apply zAc | apply zAi | refine zAh ?_ GE336.out | refine zAh ?_ GE338.out) | exact HB.out)) hb); clear HO_5; clear BK336; clear BK338; clear HB; have HO_5:=n0_; have BK336:=n1_; have BK338:=n2_; have HB:=n3_; clear n0_ n1_ n2_ n3_; (try clear hb); (try clear hb2); (try clear hk); (try clear hi); have hcz50_0 : w49.cell? ⟨gb338,0,none⟩ = some (.int .i64 ((rd_T24 l0_0 x3_1).f0)):=(zAf BK338.out 0).trans rfl; have hcz50_1 : w49.cell? ⟨gb338,1,none⟩ = some (.int .i64 ((rd_T24 l0_0 x3_1).f1)):=(zAf BK338.out 1).trans rfl; have hcz50_2 : w49.cell? ⟨gb338,2,none⟩ = some (.int .i64 ((rd_T24 l0_0 x3_1).f2)):=(zAf BK338.out 2).trans rfl; have hcz50_3 : w49.cell? ⟨gb338,3,none⟩ = some (.string ((rd_T24 l0_0 x3_1).f3)):=(zAf BK338.out 3).trans rfl; have hcz50_4 : w49.cell? ⟨gb338,4,none⟩ = some (.slice A337_4 ((rd_T24 l0_0 x3_1).f4).length c337_4):=(zAf BK338.out 4).trans rfl; have hfz50_0:=zAe BK338.out 0; have hfz50_1:=zAe BK338.out 1; have hfz50_2:=zAe BK338.out 2; have hfz50_3:=zAe BK338.out 3; have hfz50_4:=zAe BK338.out 4) | ((with_reducible refine zAA (f:=48) rfl ?_); refine goesL_ (some 45) rfl rfl Try.func48 (by kernel_rfl) rfl #[.agg #[.int .i64 ((rd_T24 l0_0 x3_1).f0),.int .i64 ((rd_T24 l0_0 x3_1).f1),.int .i64 ((rd_T24 l0_0 x3_1).f2),.string ((rd_T24 l0_0 x3_1).f3),.slice A337_4 ((rd_T24 l0_0 x3_1).f4).length c337_4]] rfl (by (try simp only [List.map_toArray,List.map_cons,List.map_nil]); first | done | rfl | (simp only [List.length_drop,List.length_take]; rfl)) ?_; (with_reducible refine (zAE.calls k2 ((rd_T24 l0_0 x3_1).f0) ((rd_T24 l0_0 x3_1).f1) ((rd_T24 l0_0 x3_1).f2) ((rd_T24 l0_0 x3_1).f3) _ _ ((rd_T24 l0_0 x3_1).f4) true _ ?side1 ?side2 A19.out).mono ?_); (case side1 => repeat (first | exact (Kd.C_below HR337_4.out HB.out) | (with_reducible refine Kd.C_alloc ?_ _) | (with_reducible refine Kd.C_drewN ?_ _) | (with_reducible refine Kd.C_drew ?_))); (case side2 => exact HC337_4.out); rintro e w51 ⟨rfl,hb⟩; refine ⟨_,rfl,?_⟩; have n0_:=Aside0.mk (Kd.R_below (by (with_reducible repeat (first | apply Kd.R_alloc | apply Kd.R_drewN | apply Kd.R_drew)); exact HO_5.out) hb); have n1_:=Aside0.mk (zAs (g:=gb336) (o:=.cells #[.slice (some ad337) l0_0.length c0_0,.int .i64 a0_1] 30 (0,0)) (by (with_reducible repeat (first | apply zAb | apply zAd | apply zAa)); exact BK336.out) hb); have n2_:=Aside0.mk (zAs (g:=gb338) (o:=.cells #[.int .i64 ((rd_T24 l0_0 x3_1).f0),.int .i64 ((rd_T24 l0_0 x3_1).f1),.int .i64 ((rd_T24 l0_0 x3_1).f2),.string ((rd_T24 l0_0 x3_1).f3),.slice A337_4 ((rd_T24 l0_0 x3_1).f4).length c337_4] 24 (0,0)) (by (with_reducible repeat (first | apply zAb | apply zAd | apply zAa)); exact BK338.out) hb); have n3_:=Aside0.mk (zAm (by repeat (first | (with_reducible first | exact HB.out | apply zAg | apply zAc | apply zAi | refine zAh ?_ GE336.out | refine zAh ?_ GE338.out) | exact HB.out)) hb); clear HO_5; clear BK336; clear BK338; clear HB; have HO_5:=n0_; have BK336:=n1_; have BK338:=n2_; have HB:=n3_; clear n0_ n1_ n2_ n3_; (try clear hb); (try clear hb2); (try clear hk); (try clear hi); have hcz52_0 : w51.cell? ⟨gb338,0,none⟩ = some (.int .i64 ((rd_T24 l0_0 x3_1).f0)):=(zAf BK338.out 0).trans rfl; have hcz52_1 : w51.cell? ⟨gb338,1,none⟩ = some (.int .i64 ((rd_T24 l0_0 x3_1).f1)):=(zAf BK338.out 1).trans rfl; have hcz52_2 : w51.cell? ⟨gb338,2,none⟩ = some (.int .i64 ((rd_T24 l0_0 x3_1).f2)):=(zAf BK338.out 2).trans rfl; have hcz52_3 : w51.cell? ⟨gb338,3,none⟩ = some (.string ((rd_T24 l0_0 x3_1).f3)):=(zAf BK338.out 3).trans rfl; have hcz52_4 : w51.cell? ⟨gb338,4,none⟩ = some (.slice A337_4 ((rd_T24 l0_0 x3_1).f4).length c337_4):=(zAf BK338.out 4).trans rfl; have hfz52_0:=zAe BK338.out 0; have hfz52_1:=zAe BK338.out 1; have hfz52_2:=zAe BK338.out 2; have hfz52_3:=zAe BK338.out 3; have hfz52_4:=zAe BK338.out 4; obtain ⟨Ao53,co53,eo53⟩:=Kd.R_slice HO_5.out; subst eo53) | ((with_reducible refine zAA (f:=49) rfl ?_); refine goesL_ (some 49) rfl rfl Try.func49 (by kernel_rfl) rfl #[.int .i64 ((rd_T24 l0_0 x3_1).f0),.slice Ao53 x5_2.length co53] rfl (by (try simp only [List.map_toArray,List.map_cons,List.map_nil]); first | done | rfl | (simp only [List.length_drop,List.length_take]; rfl)) ?_; (with_reducible refine (zAk.calls k2 ((rd_T24 l0_0 x3_1).f0) _ _ x5_2 false _ ?side1 ?side2 A20.out).mono ?_); (case side1 => repeat (first | exact (Kd.zAV HO_5.out).2.2 | (with_reducible refine Kd.C_alloc ?_ _) | (with_reducible refine Kd.C_drewN ?_ _) | (with_reducible refine Kd.C_drew ?_))); (case side2 => exact (Kd.zAV HO_5.out).2.1); rintro e w' ⟨rfl,⟨nd,rfl⟩⟩; refine ⟨_,rfl,?_⟩))
             go_ret
             exact ⟨by first | rfl | (simp [zAo,zAn] <;> rfl) | (simp [*,zAo,zAn] <;> rfl),by repeat (first | (with_reducible first | exact HB.out | apply zAg | apply zAc | apply zAi | refine zAh ?_ GE336.out | refine zAh ?_ GE338.out) | exact HB.out)⟩
           ·replace c38:=Bool.eq_false_iff.mpr c38
            subst c38
            have H1 : (some false) = some r:=by rw [if_neg (show ¬ (false = true) by decide)] at H; exact H
            clear H
            have H:=H1
            clear H1
            obtain rfl:=Option.some.inj H
            have hnb54:=NB338_336.out
            have hnc54:=NB336_338.out
            have hcz55_0 : wr.cell? ⟨gb338,0,none⟩ = some (.int .i64 ((rd_T24 l0_0 x3_1).f0)):=(zAf BK338.out 0).trans rfl
            have hcz55_1 : wr.cell? ⟨gb338,1,none⟩ = some (.int .i64 ((rd_T24 l0_0 x3_1).f1)):=(zAf BK338.out 1).trans rfl
            have hcz55_2 : wr.cell? ⟨gb338,2,none⟩ = some (.int .i64 ((rd_T24 l0_0 x3_1).f2)):=(zAf BK338.out 2).trans rfl
            have hcz55_3 : wr.cell? ⟨gb338,3,none⟩ = some (.string ((rd_T24 l0_0 x3_1).f3)):=(zAf BK338.out 3).trans rfl
            have hcz55_4 : wr.cell? ⟨gb338,4,none⟩ = some (.slice A337_4 ((rd_T24 l0_0 x3_1).f4).length c337_4):=(zAf BK338.out 4).trans rfl
            have hfz55_0:=zAe BK338.out 0
            have hfz55_1:=zAe BK338.out 1
            have hfz55_2:=zAe BK338.out 2
            have hfz55_3:=zAe BK338.out 3
            have hfz55_4:=zAe BK338.out 4
            go_wp2_with (first | ((with_reducible refine zAA (f:=47) rfl ?_); refine goesL_ (some 43) rfl rfl Try.func47 (by kernel_rfl) rfl #[.agg #[.int .i64 ((rd_T24 l0_0 x3_1).f0),.int .i64 ((rd_T24 l0_0 x3_1).f1),.int .i64 ((rd_T24 l0_0 x3_1).f2),.string ((rd_T24 l0_0 x3_1).f3),.slice A337_4 ((rd_T24 l0_0 x3_1).f4).length c337_4]] rfl (by (try simp only [List.map_toArray,List.map_cons,List.map_nil]); first | done | rfl | (simp only [List.length_drop,List.length_take]; rfl)) ?_; (with_reducible refine (zAr.calls k2 ((rd_T24 l0_0 x3_1).f0) ((rd_T24 l0_0 x3_1).f1) ((rd_T24 l0_0 x3_1).f2) ((rd_T24 l0_0 x3_1).f3) _ _ ((rd_T24 l0_0 x3_1).f4) true _ ?side1 ?side2 A18.out).mono ?_); (case side1 => repeat (first | exact (Kd.C_below HR337_4.out HB.out) | (with_reducible refine Kd.C_alloc ?_ _) | (with_reducible refine Kd.C_drewN ?_ _) | (with_reducible refine Kd.C_drew ?_))); (case side2 => exact HC337_4.out); rintro e w56 ⟨rfl,hb⟩; refine ⟨_,rfl,?_⟩; have n0_:=Aside0.mk (Kd.R_below (by (with_reducible repeat (first | apply Kd.R_alloc | apply Kd.R_drewN | apply Kd.R_drew)); exact HO_5.out) hb); have n1_:=Aside0.mk (zAs (g:=gb336) (o:=.cells #[.slice (some ad337) l0_0.length c0_0,.int .i64 a0_1] 30 (0,0)) (by (with_reducible repeat (first | apply zAb | apply zAd | apply zAa)); exact BK336.out) hb); have n2_:=Aside0.mk (zAs (g:=gb338) (o:=.cells #[.int .i64 ((rd_T24 l0_0 x3_1).f0),.int .i64 ((rd_T24 l0_0 x3_1).f1),.int .i64 ((rd_T24 l0_0 x3_1).f2),.string ((rd_T24 l0_0 x3_1).f3),.slice A337_4 ((rd_T24 l0_0 x3_1).f4).length c337_4] 24 (0,0)) (by (with_reducible repeat (first | apply zAb | apply zAd | apply zAa)); exact BK338.out) hb); have n3_:=Aside0.mk (zAm (by repeat (first | (with_reducible first | exact HB.out | apply zAg | apply zAc | apply zAi | refine zAh ?_ GE336.out | refine zAh ?_ GE338.out) | exact HB.out)) hb); clear HO_5; clear BK336; clear BK338; clear HB; have HO_5:=n0_; have BK336:=n1_; have BK338:=n2_; have HB:=n3_; clear n0_ n1_ n2_ n3_; (try clear hb); (try clear hb2); (try clear hk); (try clear hi); have hcz57_0 : w56.cell? ⟨gb338,0,none⟩ = some (.int .i64 ((rd_T24 l0_0 x3_1).f0)):=(zAf BK338.out 0).trans rfl; have hcz57_1 : w56.cell? ⟨gb338,1,none⟩ = some (.int .i64 ((rd_T24 l0_0 x3_1).f1)):=(zAf BK338.out 1).trans rfl; have hcz57_2 : w56.cell? ⟨gb338,2,none⟩ = some (.int .i64 ((rd_T24 l0_0 x3_1).f2)):=(zAf BK338.out 2).trans rfl; have hcz57_3 : w56.cell? ⟨gb338,3,none⟩ = some (.string ((rd_T24 l0_0 x3_1).f3)):=(zAf BK338.out 3).trans rfl; have hcz57_4 : w56.cell? ⟨gb338,4,none⟩ = some (.slice A337_4 ((rd_T24 l0_0 x3_1).f4).length c337_4):=(zAf BK338.out 4).trans rfl; have hfz57_0:=zAe BK338.out 0; have hfz57_1:=zAe BK338.out 1; have hfz57_2:=zAe BK338.out 2; have hfz57_3:=zAe BK338.out 3; have hfz57_4:=zAe BK338.out 4) | ((with_reducible refine zAA (f:=48) rfl ?_); refine goesL_ (some 45) rfl rfl Try.func48 (by kernel_rfl) rfl #[.agg #[.int .i64 ((rd_T24 l0_0 x3_1).f0),.int .i64 ((rd_T24 l0_0 x3_1).f1),.int .i64 ((rd_T24 l0_0 x3_1).f2),.string ((rd_T24 l0_0 x3_1).f3),.slice A337_4 ((rd_T24 l0_0 x3_1).f4).length c337_4]] rfl (by (try simp only [List.map_toArray,List.map_cons,List.map_nil]); first | done | rfl | (simp only [List.length_drop,List.length_take]; rfl)) ?_; (with_reducible refine (zAE.calls k2 ((rd_T24 l0_0 x3_1).f0) ((rd_T24 l0_0 x3_1).f1) ((rd_T24 l0_0 x3_1).f2) ((rd_T24 l0_0 x3_1).f3) _ _ ((rd_T24 l0_0 x3_1).f4) false _ ?side1 ?side2 A19.out).mono ?_); (case side1 => repeat (first | exact (Kd.C_below HR337_4.out HB.out) | (with_reducible refine Kd.C_alloc ?_ _) | (with_reducible refine Kd.C_drewN ?_ _) | (with_reducible refine Kd.C_drew ?_))); (case side2 => exact HC337_4.out); rintro e w58 ⟨rfl,hb⟩; refine ⟨_,rfl,?_⟩; have n0_:=Aside0.mk (Kd.R_below (by (with_reducible repeat (first | apply Kd.R_alloc | apply Kd.R_drewN | apply Kd.R_drew)); exact HO_5.out) hb); have n1_:=Aside0.mk (zAs (g:=gb336) (o:=.cells #[.slice (some ad337) l0_0.length c0_0,.int .i64 a0_1] 30 (0,0)) (by (with_reducible repeat (first | apply zAb | apply zAd | apply zAa)); exact BK336.out) hb); have n2_:=Aside0.mk (zAs (g:=gb338) (o:=.cells #[.int .i64 ((rd_T24 l0_0 x3_1).f0),.int .i64 ((rd_T24 l0_0 x3_1).f1),.int .i64 ((rd_T24 l0_0 x3_1).f2),.string ((rd_T24 l0_0 x3_1).f3),.slice A337_4 ((rd_T24 l0_0 x3_1).f4).length c337_4] 24 (0,0)) (by (with_reducible repeat (first | apply zAb | apply zAd | apply zAa)); exact BK338.out) hb); have n3_:=Aside0.mk (zAm (by repeat (first | (with_reducible first | exact HB.out | apply zAg | apply zAc | apply zAi | refine zAh ?_ GE336.out | refine zAh ?_ GE338.out) | exact HB.out)) hb); clear HO_5; clear BK336; clear BK338; clear HB; have HO_5:=n0_; have BK336:=n1_; have BK338:=n2_; have HB:=n3_; clear n0_ n1_ n2_ n3_; (try clear hb); (try clear hb2); (try clear hk); (try clear hi); have hcz59_0 : w58.cell? ⟨gb338,0,none⟩ = some (.int .i64 ((rd_T24 l0_0 x3_1).f0)):=(zAf BK338.out 0).trans rfl; have hcz59_1 : w58.cell? ⟨gb338,1,none⟩ = some (.int .i64 ((rd_T24 l0_0 x3_1).f1)):=(zAf BK338.out 1).trans rfl; have hcz59_2 : w58.cell? ⟨gb338,2,none⟩ = some (.int .i64 ((rd_T24 l0_0 x3_1).f2)):=(zAf BK338.out 2).trans rfl; have hcz59_3 : w58.cell? ⟨gb338,3,none⟩ = some (.string ((rd_T24 l0_0 x3_1).f3)):=(zAf BK338.out 3).trans rfl; have hcz59_4 : w58.cell? ⟨gb338,4,none⟩ = some (.slice A337_4 ((rd_T24 l0_0 x3_1).f4).length c337_4):=(zAf BK338.out 4).trans rfl; have hfz59_0:=zAe BK338.out 0; have hfz59_1:=zAe BK338.out 1; have hfz59_2:=zAe BK338.out 2; have hfz59_3:=zAe BK338.out 3; have hfz59_4:=zAe BK338.out 4; obtain ⟨Ao60,co60,eo60⟩:=Kd.R_slice HO_5.out; subst eo60) | ((with_reducible refine zAA (f:=49) rfl ?_); refine goesL_ (some 49) rfl rfl Try.func49 (by kernel_rfl) rfl #[.int .i64 ((rd_T24 l0_0 x3_1).f0),.slice Ao60 x5_2.length co60] rfl (by (try simp only [List.map_toArray,List.map_cons,List.map_nil]); first | done | rfl | (simp only [List.length_drop,List.length_take]; rfl)) ?_; (with_reducible refine (zAk.calls k2 ((rd_T24 l0_0 x3_1).f0) _ _ x5_2 t346 _ ?side1 ?side2 A20.out).mono ?_); (case side1 => repeat (first | exact (Kd.zAV HO_5.out).2.2 | (with_reducible refine Kd.C_alloc ?_ _) | (with_reducible refine Kd.C_drewN ?_ _) | (with_reducible refine Kd.C_drew ?_))); (case side2 => exact (Kd.zAV HO_5.out).2.1); rintro e w' ⟨rfl,⟨nd,rfl⟩⟩; refine ⟨_,rfl,?_⟩))
            go_ret
            exact ⟨by first | rfl | (simp [zAo,zAn] <;> rfl) | (simp [*,zAo,zAn] <;> rfl),by repeat (first | (with_reducible first | exact HB.out | apply zAg | apply zAc | apply zAi | refine zAh ?_ GE336.out | refine zAh ?_ GE338.out) | exact HB.out)⟩
          ·replace c37:=Bool.eq_false_iff.mpr c37
           subst c37
           have H1 : (some false) = some r:=by rw [if_neg (show ¬ (false = true) by decide)] at H; exact H
           clear H
           have H:=H1
           clear H1
           obtain rfl:=Option.some.inj H
           have hnb61:=NB338_336.out
           have hnc61:=NB336_338.out
           have hcz62_0 : wr.cell? ⟨gb338,0,none⟩ = some (.int .i64 ((rd_T24 l0_0 x3_1).f0)):=(zAf BK338.out 0).trans rfl
           have hcz62_1 : wr.cell? ⟨gb338,1,none⟩ = some (.int .i64 ((rd_T24 l0_0 x3_1).f1)):=(zAf BK338.out 1).trans rfl
           have hcz62_2 : wr.cell? ⟨gb338,2,none⟩ = some (.int .i64 ((rd_T24 l0_0 x3_1).f2)):=(zAf BK338.out 2).trans rfl
           have hcz62_3 : wr.cell? ⟨gb338,3,none⟩ = some (.string ((rd_T24 l0_0 x3_1).f3)):=(zAf BK338.out 3).trans rfl
           have hcz62_4 : wr.cell? ⟨gb338,4,none⟩ = some (.slice A337_4 ((rd_T24 l0_0 x3_1).f4).length c337_4):=(zAf BK338.out 4).trans rfl
           have hfz62_0:=zAe BK338.out 0
           have hfz62_1:=zAe BK338.out 1
           have hfz62_2:=zAe BK338.out 2
           have hfz62_3:=zAe BK338.out 3
           have hfz62_4:=zAe BK338.out 4
           go_wp2_with (first | ((with_reducible refine zAA (f:=47) rfl ?_); refine goesL_ (some 43) rfl rfl Try.func47 (by kernel_rfl) rfl #[.agg #[.int .i64 ((rd_T24 l0_0 x3_1).f0),.int .i64 ((rd_T24 l0_0 x3_1).f1),.int .i64 ((rd_T24 l0_0 x3_1).f2),.string ((rd_T24 l0_0 x3_1).f3),.slice A337_4 ((rd_T24 l0_0 x3_1).f4).length c337_4]] rfl (by (try simp only [List.map_toArray,List.map_cons,List.map_nil]); first | done | rfl | (simp only [List.length_drop,List.length_take]; rfl)) ?_; (with_reducible refine (zAr.calls k2 ((rd_T24 l0_0 x3_1).f0) ((rd_T24 l0_0 x3_1).f1) ((rd_T24 l0_0 x3_1).f2) ((rd_T24 l0_0 x3_1).f3) _ _ ((rd_T24 l0_0 x3_1).f4) false _ ?side1 ?side2 A18.out).mono ?_); (case side1 => repeat (first | exact (Kd.C_below HR337_4.out HB.out) | (with_reducible refine Kd.C_alloc ?_ _) | (with_reducible refine Kd.C_drewN ?_ _) | (with_reducible refine Kd.C_drew ?_))); (case side2 => exact HC337_4.out); rintro e w63 ⟨rfl,hb⟩; refine ⟨_,rfl,?_⟩; have n0_:=Aside0.mk (Kd.R_below (by (with_reducible repeat (first | apply Kd.R_alloc | apply Kd.R_drewN | apply Kd.R_drew)); exact HO_5.out) hb); have n1_:=Aside0.mk (zAs (g:=gb336) (o:=.cells #[.slice (some ad337) l0_0.length c0_0,.int .i64 a0_1] 30 (0,0)) (by (with_reducible repeat (first | apply zAb | apply zAd | apply zAa)); exact BK336.out) hb); have n2_:=Aside0.mk (zAs (g:=gb338) (o:=.cells #[.int .i64 ((rd_T24 l0_0 x3_1).f0),.int .i64 ((rd_T24 l0_0 x3_1).f1),.int .i64 ((rd_T24 l0_0 x3_1).f2),.string ((rd_T24 l0_0 x3_1).f3),.slice A337_4 ((rd_T24 l0_0 x3_1).f4).length c337_4] 24 (0,0)) (by (with_reducible repeat (first | apply zAb | apply zAd | apply zAa)); exact BK338.out) hb); have n3_:=Aside0.mk (zAm (by repeat (first | (with_reducible first | exact HB.out | apply zAg | apply zAc | apply zAi | refine zAh ?_ GE336.out | refine zAh ?_ GE338.out) | exact HB.out)) hb); clear HO_5; clear BK336; clear BK338; clear HB; have HO_5:=n0_; have BK336:=n1_; have BK338:=n2_; have HB:=n3_; clear n0_ n1_ n2_ n3_; (try clear hb); (try clear hb2); (try clear hk); (try clear hi); have hcz64_0 : w63.cell? ⟨gb338,0,none⟩ = some (.int .i64 ((rd_T24 l0_0 x3_1).f0)):=(zAf BK338.out 0).trans rfl; have hcz64_1 : w63.cell? ⟨gb338,1,none⟩ = some (.int .i64 ((rd_T24 l0_0 x3_1).f1)):=(zAf BK338.out 1).trans rfl; have hcz64_2 : w63.cell? ⟨gb338,2,none⟩ = some (.int .i64 ((rd_T24 l0_0 x3_1).f2)):=(zAf BK338.out 2).trans rfl; have hcz64_3 : w63.cell? ⟨gb338,3,none⟩ = some (.string ((rd_T24 l0_0 x3_1).f3)):=(zAf BK338.out 3).trans rfl; have hcz64_4 : w63.cell? ⟨gb338,4,none⟩ = some (.slice A337_4 ((rd_T24 l0_0 x3_1).f4).length c337_4):=(zAf BK338.out 4).trans rfl; have hfz64_0:=zAe BK338.out 0; have hfz64_1:=zAe BK338.out 1; have hfz64_2:=zAe BK338.out 2; have hfz64_3:=zAe BK338.out 3; have hfz64_4:=zAe BK338.out 4) | ((with_reducible refine zAA (f:=48) rfl ?_); refine goesL_ (some 45) rfl rfl Try.func48 (by kernel_rfl) rfl #[.agg #[.int .i64 ((rd_T24 l0_0 x3_1).f0),.int .i64 ((rd_T24 l0_0 x3_1).f1),.int .i64 ((rd_T24 l0_0 x3_1).f2),.string ((rd_T24 l0_0 x3_1).f3),.slice A337_4 ((rd_T24 l0_0 x3_1).f4).length c337_4]] rfl (by (try simp only [List.map_toArray,List.map_cons,List.map_nil]); first | done | rfl | (simp only [List.length_drop,List.length_take]; rfl)) ?_; (with_reducible refine (zAE.calls k2 ((rd_T24 l0_0 x3_1).f0) ((rd_T24 l0_0 x3_1).f1) ((rd_T24 l0_0 x3_1).f2) ((rd_T24 l0_0 x3_1).f3) _ _ ((rd_T24 l0_0 x3_1).f4) t345 _ ?side1 ?side2 A19.out).mono ?_); (case side1 => repeat (first | exact (Kd.C_below HR337_4.out HB.out) | (with_reducible refine Kd.C_alloc ?_ _) | (with_reducible refine Kd.C_drewN ?_ _) | (with_reducible refine Kd.C_drew ?_))); (case side2 => exact HC337_4.out); rintro e w65 ⟨rfl,hb⟩; refine ⟨_,rfl,?_⟩; have n0_:=Aside0.mk (Kd.R_below (by (with_reducible repeat (first | apply Kd.R_alloc | apply Kd.R_drewN | apply Kd.R_drew)); exact HO_5.out) hb); have n1_:=Aside0.mk (zAs (g:=gb336) (o:=.cells #[.slice (some ad337) l0_0.length c0_0,.int .i64 a0_1] 30 (0,0)) (by (with_reducible repeat (first | apply zAb | apply zAd | apply zAa)); exact BK336.out) hb); have n2_:=Aside0.mk (zAs (g:=gb338) (o:=.cells #[.int .i64 ((rd_T24 l0_0 x3_1).f0),.int .i64 ((rd_T24 l0_0 x3_1).f1),.int .i64 ((rd_T24 l0_0 x3_1).f2),.string ((rd_T24 l0_0 x3_1).f3),.slice A337_4 ((rd_T24 l0_0 x3_1).f4).length c337_4] 24 (0,0)) (by (with_reducible repeat (first | apply zAb | apply zAd | apply zAa)); exact BK338.out) hb); have n3_:=Aside0.mk (zAm (by repeat (first | (with_reducible first | exact HB.out | apply zAg | apply zAc | apply zAi | refine zAh ?_ GE336.out | refine zAh ?_ GE338.out) | exact HB.out)) hb); clear HO_5; clear BK336; clear BK338; clear HB; have HO_5:=n0_; have BK336:=n1_; have BK338:=n2_; have HB:=n3_; clear n0_ n1_ n2_ n3_; (try clear hb); (try clear hb2); (try clear hk); (try clear hi); have hcz66_0 : w65.cell? ⟨gb338,0,none⟩ = some (.int .i64 ((rd_T24 l0_0 x3_1).f0)):=(zAf BK338.out 0).trans rfl; have hcz66_1 : w65.cell? ⟨gb338,1,none⟩ = some (.int .i64 ((rd_T24 l0_0 x3_1).f1)):=(zAf BK338.out 1).trans rfl; have hcz66_2 : w65.cell? ⟨gb338,2,none⟩ = some (.int .i64 ((rd_T24 l0_0 x3_1).f2)):=(zAf BK338.out 2).trans rfl; have hcz66_3 : w65.cell? ⟨gb338,3,none⟩ = some (.string ((rd_T24 l0_0 x3_1).f3)):=(zAf BK338.out 3).trans rfl; have hcz66_4 : w65.cell? ⟨gb338,4,none⟩ = some (.slice A337_4 ((rd_T24 l0_0 x3_1).f4).length c337_4):=(zAf BK338.out 4).trans rfl; have hfz66_0:=zAe BK338.out 0; have hfz66_1:=zAe BK338.out 1; have hfz66_2:=zAe BK338.out 2; have hfz66_3:=zAe BK338.out 3; have hfz66_4:=zAe BK338.out 4; obtain ⟨Ao67,co67,eo67⟩:=Kd.R_slice HO_5.out; subst eo67) | ((with_reducible refine zAA (f:=49) rfl ?_); refine goesL_ (some 49) rfl rfl Try.func49 (by kernel_rfl) rfl #[.int .i64 ((rd_T24 l0_0 x3_1).f0),.slice Ao67 x5_2.length co67] rfl (by (try simp only [List.map_toArray,List.map_cons,List.map_nil]); first | done | rfl | (simp only [List.length_drop,List.length_take]; rfl)) ?_; (with_reducible refine (zAk.calls k2 ((rd_T24 l0_0 x3_1).f0) _ _ x5_2 t346 _ ?side1 ?side2 A20.out).mono ?_); (case side1 => repeat (first | exact (Kd.zAV HO_5.out).2.2 | (with_reducible refine Kd.C_alloc ?_ _) | (with_reducible refine Kd.C_drewN ?_ _) | (with_reducible refine Kd.C_drew ?_))); (case side2 => exact (Kd.zAV HO_5.out).2.1); rintro e w' ⟨rfl,⟨nd,rfl⟩⟩; refine ⟨_,rfl,?_⟩))
           go_ret
           exact ⟨by first | rfl | (simp [zAo,zAn] <;> rfl) | (simp [*,zAo,zAn] <;> rfl),by repeat (first | (with_reducible first | exact HB.out | apply zAg | apply zAc | apply zAi | refine zAh ?_ GE336.out | refine zAh ?_ GE338.out) | exact HB.out)⟩
    ·rw [if_neg c4] at H
     exact absurd H (by simp)
   ·rw [if_neg c3] at H
    have c3b0 : decide (x3_1 < (l0_0.length : Int)) = false:=decide_eq_false c3
    clear c3
    obtain rfl:=Option.some.inj H
    have hcz68_0 : wr.cell? ⟨gb336,0,none⟩ = some (.slice A0_0 l0_0.length c0_0):=(zAf BK336.out 0).trans rfl
    have hcz68_1 : wr.cell? ⟨gb336,1,none⟩ = some (.int .i64 a0_1):=(zAf BK336.out 1).trans rfl
    have hfz68_0:=zAe BK336.out 0
    have hfz68_1:=zAe BK336.out 1
    go_wp2
    go_ret
    exact ⟨by first | rfl | (simp [zAo,zAn] <;> rfl) | (simp [*,zAo,zAn] <;> rfl),by repeat (first | (with_reducible first | exact HB.out | apply zAg | apply zAc | apply zAi | refine zAh ?_ GE336.out) | exact HB.out)⟩
end Go.Proofs.Ytpggidmpkhmijaa.P
