import Derived.Test.YtpggidmpkhmijaaRose
import Derived.Test.YtpggidmpkhmijaaPf26
set_option linter.unusedVariables false
set_option linter.unusedSimpArgs false
namespace Go.Proofs.Ytpggidmpkhmijaa.P
open Go.RowKit Go.Proofs.YtpggidmpkhmijaaW.PrintWords Go.Proofs.YtpggidmpkhmijaaW.PrintLast Go.Proofs.YtpggidmpkhmijaaW.PrintMore
attribute [local go_sem] zBa zAY max_two min_two zAR zAT zAZ zAX
mutual
def zAS.l0 : Nat → List (S30) → Int → Int → Int → Int → Int → ByteArray → List Int → List (S24) → Int → Option ((List (S24)) × Int)
 | 0,_,_,_,_,_,_,_,_,_,_ => none
 | k + 1,x12,x13,x14,x111000,x111001,x111002,x111003,x111004,x113000,x113001 => if x14 < x13 then (if 0 ≤ x14 then (if x14 < (x12.length : Int) then (zAS.l1 k (x113000.length : Int) x12 x13 x14 ((rd_T30 x12 x14).f0) (((rd_T30 x12 x14).f0).length : Int) 0 x111000 x111001 x111002 x111003 x111004 x113000 x113001 ((rd_T30 x12 x14).f0) ((rd_T30 x12 x14).f1)) else (none)) else (none)) else (if x113000.length < 2199023255552 then (some ((x113000 ++ [(⟨x111000,x111001,x111002,x111003,x111004⟩ : S24)]),(x113000.length : Int))) else (none))
def zAS.l1 : Nat → Int → List (S30) → Int → Int → List (S24) → Int → Int → Int → Int → Int → ByteArray → List Int → List (S24) → Int → List (S24) → Int → Option ((List (S24)) × Int)
 | 0,_,_,_,_,_,_,_,_,_,_,_,_,_,_,_,_ => none
 | k + 1,x8,x12,x13,x14,x22,x23,x24,x111000,x111001,x111002,x111003,x111004,x113000,x113001,x118000,x118001 => if x24 < x23 then (if 0 ≤ x24 then (if x24 < (x22.length : Int) then ((zBc.f k ((rd_T24 x22 x24).f0) ((rd_T24 x22 x24).f1) ((rd_T24 x22 x24).f2) ((rd_T24 x22 x24).f3) ((rd_T24 x22 x24).f4) x8).bind fun bt120 => (if x113000.length < 2199023255552 then (zAS.l1 k x8 x12 x13 x14 x22 x23 (wrap64 (x24 + 1)) x111000 x111001 x111002 x111003 x111004 (x113000 ++ [(⟨bt120.1,bt120.2.1,bt120.2.2.1,bt120.2.2.2.1,bt120.2.2.2.2⟩ : S24)]) x113001 x118000 x118001) else (none))) else (none)) else (none)) else (if x111004.length < 17592186044416 then (zAS.l0 k x12 x13 (wrap64 (x14 + 1)) x111000 x111001 x111002 x111003 (x111004 ++ [wrap64 (x118001 + x8)]) x113000 x113001) else (none))
end
def zAS.f (k : Nat) (a0_0 : Int) (a0_1 : Int) (a0_2 : Int) (a0_3 : ByteArray) (l0_4 : List Int) (l1 : List (S30)) : Option ((List (S24)) × Int):=zAS.l0 k l1 (l1.length : Int) 0 a0_0 a0_1 a0_2 a0_3 ([] : List Int) ([] : List (S24)) 0
def zAS.T10 : Bool × List (List Nat × List Nat):=(true,[([],[]),([0],[0]),([],[]),([],[]),([2,3],[2,3]),([4],[4]),([1,5,4],[1,5]),([0,1,2,3,4,5,6],[]),([7,6,6,0,1,2,3,4,5,6],[6,7])])
def zAS.B10 : List Nat:=[0,1,0,0,12,28,63,127,255]
theorem zAS.tab10 : rtab .any (opsOf Try.f10 10) = zAS.T10:=by kernel_rfl
theorem zAS.bits10 : waitsOk zAS.T10.2 zAS.B10 = true:=by kernel_rfl
set_option maxHeartbeats 8000000 in
set_option maxRecDepth 100000 in
theorem zAS.calls (k : Nat) (a0_0 : Int) (a0_1 : Int) (a0_2 : Int) (a0_3 : ByteArray) (A0_4 : Option Addr) (c0_4 : Nat) (l0_4 : List Int) (A1 : Option Addr) (c1 : Nat) (l1 : List (S30)) (r1 : List (S24)) (r2 : Int) (w : World) (hr0_4 : Kd.C (Kd.int .i64) w A0_4 l0_4.length l0_4) (hc0_4 : l0_4.length ≤ c0_4) (hr1 : Kd.C k30 w A1 l1.length l1) (hc1 : l1.length ≤ c1) (h : zAS.f k a0_0 a0_1 a0_2 a0_3 l0_4 l1 = some (r1,r2)) :
  Calls Try.prog 10 #[.agg #[.int .i64 a0_0,.int .i64 a0_1,.int .i64 a0_2,.string a0_3,.slice A0_4 l0_4.length c0_4],.slice A1 l1.length c1] w fun e w' => ∃ v0_ : Value,e = .returned (.agg #[v0_,.int .i64 r2]) ∧ Kd.S k24 24 w' w.heap.size (fun _ => True) v0_ r1 ∧ Below w.heap.size w w':=by
 have hu24:=Try.underlying24
 have hu30:=Try.underlying30
 have HR0_4:=Aside0.mk hr0_4
 have HC0_4:=Aside0.mk hc0_4
 clear hr0_4 hc0_4
 have HR1:=Aside0.mk hr1
 have HC1:=Aside0.mk hc1
 clear hr1 hc1
 have HB:=Aside0.mk (Below.refl w.heap.size w)
 have H : (zAS.l0 k l1 (l1.length : Int) 0 a0_0 a0_1 a0_2 a0_3 ([] : List Int) ([] : List (S24)) 0) = some (r1,r2):=h
 clear h
 have H':=Aside0.mk H
 clear H
 go_enter Try.func10,Try.ntmps10
 go_wp2_with (first | ((with_reducible refine zAM (N:=2) rfl ?_); refine zAL ?hg (N:=2) ?hd (cs:=#[.int .i64 a0_0,.int .i64 a0_1,.int .i64 a0_2,.string a0_3,.slice A0_4 l0_4.length c0_4]) (t:=24) ?hr ?_; (case hd => rfl); (case hg => rfl); (case hr => first | (go_simp; done) | (go_simp; rfl)); intro gb110 hg w3 hbox hb; have n0_:=Aside0.mk (zAm (by repeat (first | (with_reducible first | exact HB.out | apply zAg | apply zAc | apply zAi) | exact HB.out)) hb); have n1_:=Aside0.mk (hbox); have n2_:=Aside0.mk ((by rw [hg]; exact (zAp (by repeat (first | (with_reducible first | exact HB.out | apply zAg | apply zAc | apply zAi) | exact HB.out))) : w.heap.size ≤ gb110)); have n3_:=Aside0.mk ((by rw [hg]; exact (zAp (by repeat (first | (with_reducible first | exact HB.out | apply zAg | apply zAc | apply zAi) | exact HB.out))) : w.heap.size ≤ gb110)); clear HB; have HB:=n0_; have BK110:=n1_; have GW110:=n2_; have GE110:=n3_; clear n0_ n1_ n2_ n3_; clear hb hbox hg) | ((with_reducible refine zAM (N:=4) rfl ?_); refine zAL ?hg (N:=4) ?hd (cs:=#[.slice none 0 0,.int .i64 0]) (t:=30) ?hr ?_; (case hd => rfl); (case hg => rfl); (case hr => first | (go_simp; done) | (go_simp; rfl)); intro gb111 hg w4 hbox hb; have n0_:=Aside0.mk (zAs (g:=gb110) (o:=.cells #[.int .i64 a0_0,.int .i64 a0_1,.int .i64 a0_2,.string a0_3,.slice A0_4 l0_4.length c0_4] 24 (0,0)) (by (with_reducible repeat (first | apply zAb | apply zAd | apply zAa)); exact BK110.out) hb); have n1_:=Aside0.mk (zAm (by repeat (first | (with_reducible first | exact HB.out | apply zAg | apply zAc | apply zAi | refine zAh ?_ GE110.out) | exact HB.out)) hb); have n2_:=Aside0.mk (hbox); have n3_:=Aside0.mk ((by rw [hg]; exact (zAp (by repeat (first | (with_reducible first | exact HB.out | apply zAg | apply zAc | apply zAi | refine zAh ?_ GE110.out) | exact HB.out))) : w.heap.size ≤ gb111)); have n4_:=Aside0.mk ((by rw [hg]; exact (zAp (by repeat (first | (with_reducible first | exact HB.out | apply zAg | apply zAc | apply zAi | refine zAh ?_ GE110.out) | exact HB.out))) : w.heap.size ≤ gb111)); have n5_:=Aside0.mk ((by rw [hg]; exact Nat.ne_of_lt (blk_lt (g:=gb110) (o:=.cells #[.int .i64 a0_0,.int .i64 a0_1,.int .i64 a0_2,.string a0_3,.slice A0_4 l0_4.length c0_4] 24 (0,0)) (by (with_reducible repeat (first | apply zAb | apply zAd | apply zAa)); exact BK110.out)) : gb110 ≠ gb111)); have n6_:=Aside0.mk ((by rw [hg]; exact Nat.ne_of_gt (blk_lt (g:=gb110) (o:=.cells #[.int .i64 a0_0,.int .i64 a0_1,.int .i64 a0_2,.string a0_3,.slice A0_4 l0_4.length c0_4] 24 (0,0)) (by (with_reducible repeat (first | apply zAb | apply zAd | apply zAa)); exact BK110.out)) : gb111 ≠ gb110)); clear BK110; clear HB; have BK110:=n0_; have HB:=n1_; have BK111:=n2_; have GW111:=n3_; have GE111:=n4_; have NB110_111:=n5_; have NB111_110:=n6_; clear n0_ n1_ n2_ n3_ n4_ n5_ n6_; clear hb hbox hg) | ((with_reducible refine zAM (N:=5) rfl ?_); refine zAL ?hg (N:=5) ?hd (cs:=#[.slice none 0 0,.int .i64 0]) (t:=30) ?hr ?_; (case hd => rfl); (case hg => rfl); (case hr => first | (go_simp; done) | (go_simp; rfl)); intro gb112 hg w5 hbox hb; have n0_:=Aside0.mk (zAs (g:=gb110) (o:=.cells #[.int .i64 a0_0,.int .i64 a0_1,.int .i64 a0_2,.string a0_3,.slice A0_4 l0_4.length c0_4] 24 (0,0)) (by (with_reducible repeat (first | apply zAb | apply zAd | apply zAa)); exact BK110.out) hb); have n1_:=Aside0.mk (zAs (g:=gb111) (o:=.cells #[.slice none 0 0,.int .i64 0] 30 (0,0)) (by (with_reducible repeat (first | apply zAb | apply zAd | apply zAa)); exact BK111.out) hb); have n2_:=Aside0.mk (zAm (by repeat (first | (with_reducible first | exact HB.out | apply zAg | apply zAc | apply zAi | refine zAh ?_ GE110.out | refine zAh ?_ GE111.out) | exact HB.out)) hb); have n3_:=Aside0.mk (hbox); have n4_:=Aside0.mk ((by rw [hg]; exact (zAp (by repeat (first | (with_reducible first | exact HB.out | apply zAg | apply zAc | apply zAi | refine zAh ?_ GE110.out | refine zAh ?_ GE111.out) | exact HB.out))) : w.heap.size ≤ gb112)); have n5_:=Aside0.mk ((by rw [hg]; exact (zAp (by repeat (first | (with_reducible first | exact HB.out | apply zAg | apply zAc | apply zAi | refine zAh ?_ GE110.out | refine zAh ?_ GE111.out) | exact HB.out))) : w.heap.size ≤ gb112)); have n6_:=Aside0.mk ((by rw [hg]; exact Nat.ne_of_lt (blk_lt (g:=gb110) (o:=.cells #[.int .i64 a0_0,.int .i64 a0_1,.int .i64 a0_2,.string a0_3,.slice A0_4 l0_4.length c0_4] 24 (0,0)) (by (with_reducible repeat (first | apply zAb | apply zAd | apply zAa)); exact BK110.out)) : gb110 ≠ gb112)); have n7_:=Aside0.mk ((by rw [hg]; exact Nat.ne_of_gt (blk_lt (g:=gb110) (o:=.cells #[.int .i64 a0_0,.int .i64 a0_1,.int .i64 a0_2,.string a0_3,.slice A0_4 l0_4.length c0_4] 24 (0,0)) (by (with_reducible repeat (first | apply zAb | apply zAd | apply zAa)); exact BK110.out)) : gb112 ≠ gb110)); have n8_:=Aside0.mk ((by rw [hg]; exact Nat.ne_of_lt (blk_lt (g:=gb111) (o:=.cells #[.slice none 0 0,.int .i64 0] 30 (0,0)) (by (with_reducible repeat (first | apply zAb | apply zAd | apply zAa)); exact BK111.out)) : gb111 ≠ gb112)); have n9_:=Aside0.mk ((by rw [hg]; exact Nat.ne_of_gt (blk_lt (g:=gb111) (o:=.cells #[.slice none 0 0,.int .i64 0] 30 (0,0)) (by (with_reducible repeat (first | apply zAb | apply zAd | apply zAa)); exact BK111.out)) : gb112 ≠ gb111)); clear BK110; clear BK111; clear HB; have BK110:=n0_; have BK111:=n1_; have HB:=n2_; have BK112:=n3_; have GW112:=n4_; have GE112:=n5_; have NB110_112:=n6_; have NB112_110:=n7_; have NB111_112:=n8_; have NB112_111:=n9_; clear n0_ n1_ n2_ n3_ n4_ n5_ n6_ n7_ n8_ n9_; clear hb hbox hg; have hnb6:=NB110_111.out; have hnc6:=NB111_110.out; have hnb7:=NB110_112.out; have hnc7:=NB112_110.out; have hcz8_0 : w5.cell? ⟨gb110,0,none⟩ = some (.int .i64 a0_0):=(zAf BK110.out 0).trans rfl; have hcz8_1 : w5.cell? ⟨gb110,1,none⟩ = some (.int .i64 a0_1):=(zAf BK110.out 1).trans rfl; have hcz8_2 : w5.cell? ⟨gb110,2,none⟩ = some (.int .i64 a0_2):=(zAf BK110.out 2).trans rfl; have hcz8_3 : w5.cell? ⟨gb110,3,none⟩ = some (.string a0_3):=(zAf BK110.out 3).trans rfl; have hcz8_4 : w5.cell? ⟨gb110,4,none⟩ = some (.slice A0_4 l0_4.length c0_4):=(zAf BK110.out 4).trans rfl; have hfz8_0:=zAe BK110.out 0; have hfz8_1:=zAe BK110.out 1; have hfz8_2:=zAe BK110.out 2; have hfz8_3:=zAe BK110.out 3; have hfz8_4:=zAe BK110.out 4))
 go_loopg [14] k (fun kq v14 w' => ∃ (x14_1 : Int) (x111004_1 : List Int) (x113000_1 : List (S24)) (u111004 : Value) (u113000 : Value),v14 = .int .i64 x14_1 ∧ Aside0 (zAS.l0 kq l1 (l1.length : Int) x14_1 a0_0 a0_1 a0_2 a0_3 x111004_1 x113000_1 0 = some (r1,r2)) ∧ Aside0 (kq ≤ k) ∧ Aside0 (Kd.R (Kd.int .i64) 3 w' w.heap.size (fun _ => True) u111004 x111004_1) ∧ Aside0 (Kd.S k24 24 w' w.heap.size (fun k_ => some k_ ≠ (u111004 : Value).ownBlock ∧ k_ ≠ gb110) u113000 x113000_1) ∧ Aside0 (w'.heap[gb110]? = some (.cells #[.int .i64 a0_0,.int .i64 a0_1,.int .i64 a0_2,.string a0_3,u111004] 24 (0,0))) ∧ Aside0 (w'.heap[gb111]? = some (.cells #[(.slice none 0 0),.int .i64 0] 30 (0,0))) ∧ Aside0 (w'.heap[gb112]? = some (.cells #[u113000,.int .i64 0] 30 (0,0))) ∧ Aside0 (Below w.heap.size w w'))
 case atStart => exact ⟨(0),(([] : List Int)),(([] : List (S24))),(.slice none 0 0),(.slice none 0 0),(by first | rfl | (simp; done) | (simp [*]; done)),H',⟨Nat.le_refl _⟩,⟨by first | exact Kd.R_nil _ _ _ _ _ | exact Kd.N_nil _ _ _ _ _ | exact Kd.V_nil _ _ _ _ _ | exact Kd.Q_nil _ _ _ _ _ | exact Kd.S_nil _ _ _ _ _⟩,⟨by first | exact Kd.S_nil _ _ _ _ _ | exact Kd.N_nil _ _ _ _ _ | exact Kd.V_nil _ _ _ _ _ | exact Kd.Q_nil _ _ _ _ _ | exact Kd.R_nil _ _ _ _ _⟩,⟨by (with_reducible repeat (first | apply zAb | apply zAd | apply zAa)); refine blk_put (cs:=#[.int .i64 a0_0,.int .i64 a0_1,.int .i64 a0_2,.string a0_3,.slice A0_4 l0_4.length c0_4]) ?_ 4 _ rfl; (with_reducible repeat (first | apply zAb | apply zAd | apply zAa)); exact BK110.out⟩,⟨by (with_reducible repeat (first | apply zAb | apply zAd | apply zAa)); refine blk_far ?_ NB111_110.out _; (with_reducible repeat (first | apply zAb | apply zAd | apply zAa)); exact BK111.out⟩,⟨by (with_reducible repeat (first | apply zAb | apply zAd | apply zAa)); refine blk_far ?_ NB112_110.out _; (with_reducible repeat (first | apply zAb | apply zAd | apply zAa)); exact BK112.out⟩,⟨by repeat (first | (with_reducible first | exact HB.out | apply zAg | apply zAc | apply zAi | refine zAh ?_ GE110.out | refine zAh ?_ GE111.out | refine zAh ?_ GE112.out) | exact HB.out)⟩⟩
 case round =>
  clear H'
  try clear c1
  try clear p2
  try clear c6
  try clear c7
  try clear hcz8_0
  try clear hcz8_1
  try clear hcz8_2
  try clear hcz8_3
  try clear hcz8_4
  try clear hfz8_0
  try clear hfz8_1
  try clear hfz8_2
  try clear hfz8_3
  try clear hfz8_4
  obtain ⟨x14_1,x111004_1,x113000_1,u111004,u113000,rfl,HA,HK1,HO_111004,HO_113000,BK110,BK111,BK112,HB⟩:=hrel
  cases gk with
  | zero => exact absurd HA.out (by simp [zAS.l0])
  | succ k1 =>
   have H:=HA.out
   clear HA
   simp only [zAS.l0] at H
   by_cases c9 : x14_1 < (l1.length : Int)
   ·rw [if_pos c9] at H
    have c9b0 : decide (x14_1 < (l1.length : Int)) = true:=decide_eq_true c9
    clear c9
    by_cases c10 : 0 ≤ x14_1
    ·rw [if_pos c10] at H
     have c10b0 : decide (0 ≤ x14_1) = true:=decide_eq_true c10
     clear c10
     by_cases c11 : x14_1 < (l1.length : Int)
     ·rw [if_pos c11] at H
      have c11b0 : decide (x14_1 < (l1.length : Int)) = true:=decide_eq_true c11
      clear c11
      have H':=Aside0.mk H
      clear H
      have p116 : 0 ≤ (x14_1 : Int):=of_decide_eq_true (by first | (with_reducible assumption) | assumption)
      have q116 : x14_1 < (l1.length : Int):=of_decide_eq_true (by first | (with_reducible assumption) | assumption)
      obtain ⟨ad116,A116_0,c116_0,e116,hx116_0,hx116_1,hl116_0,hi116_0⟩:=at_T30 HR1.out x14_1 p116 q116
      cases e116
      replace hx116_0:=(HB.out.cell (World.block_lt_of_cell? w _ hx116_0)).trans hx116_0
      replace hx116_1:=(HB.out.cell (World.block_lt_of_cell? w _ hx116_1)).trans hx116_1
      have HR116_0:=Aside0.mk hi116_0
      have HC116_0:=Aside0.mk hl116_0
      clear hi116_0 hl116_0
      replace p116:=eq_true p116
      replace q116:=eq_true q116
      go_wp2_with (first | ((with_reducible refine zAM (N:=7) rfl ?_); refine zAL ?hg (N:=7) ?hd (cs:=#[.slice none 0 0,.int .i64 0]) (t:=30) ?hr ?_; (case hd => rfl); (case hg => rfl); (case hr => first | (go_simp; done) | (go_simp; rfl)); intro gb117 hg w12 hbox hb; have n0_:=Aside0.mk (Kd.R_below (by (with_reducible repeat (first | apply Kd.R_alloc | apply Kd.R_drewN | apply Kd.R_drew)); exact HO_111004.out) hb); have n1_:=Aside0.mk (Kd.S_below (by (with_reducible repeat (first | apply Kd.S_alloc | apply Kd.S_drewN | apply Kd.S_drew)); exact HO_113000.out) hb); have n2_:=Aside0.mk (zAs (g:=gb110) (o:=.cells #[.int .i64 a0_0,.int .i64 a0_1,.int .i64 a0_2,.string a0_3,u111004] 24 (0,0)) (by (with_reducible repeat (first | apply zAb | apply zAd | apply zAa)); exact BK110.out) hb); have n3_:=Aside0.mk (zAs (g:=gb111) (o:=.cells #[.slice none 0 0,.int .i64 0] 30 (0,0)) (by (with_reducible repeat (first | apply zAb | apply zAd | apply zAa)); exact BK111.out) hb); have n4_:=Aside0.mk (zAs (g:=gb112) (o:=.cells #[u113000,.int .i64 0] 30 (0,0)) (by (with_reducible repeat (first | apply zAb | apply zAd | apply zAa)); exact BK112.out) hb); have n5_:=Aside0.mk (zAm (by repeat (first | (with_reducible first | exact HB.out | apply zAg | apply zAc | apply zAi | refine zAh ?_ GE110.out | refine zAh ?_ GE111.out | refine zAh ?_ GE112.out) | exact HB.out)) hb); have n6_:=Aside0.mk (hbox); have n7_:=Aside0.mk ((by rw [hg]; exact (zAp (by repeat (first | (with_reducible first | exact HB.out | apply zAg | apply zAc | apply zAi | refine zAh ?_ GE110.out | refine zAh ?_ GE111.out | refine zAh ?_ GE112.out) | exact HB.out))) : w.heap.size ≤ gb117)); have n8_:=Aside0.mk ((by rw [hg]; exact (zAp (by repeat (first | (with_reducible first | exact HB.out | apply zAg | apply zAc | apply zAi | refine zAh ?_ GE110.out | refine zAh ?_ GE111.out | refine zAh ?_ GE112.out) | exact HB.out))) : w.heap.size ≤ gb117)); have n9_:=Aside0.mk ((by rw [hg]; exact Nat.ne_of_lt (blk_lt (g:=gb110) (o:=.cells #[.int .i64 a0_0,.int .i64 a0_1,.int .i64 a0_2,.string a0_3,u111004] 24 (0,0)) (by (with_reducible repeat (first | apply zAb | apply zAd | apply zAa)); exact BK110.out)) : gb110 ≠ gb117)); have n10_:=Aside0.mk ((by rw [hg]; exact Nat.ne_of_gt (blk_lt (g:=gb110) (o:=.cells #[.int .i64 a0_0,.int .i64 a0_1,.int .i64 a0_2,.string a0_3,u111004] 24 (0,0)) (by (with_reducible repeat (first | apply zAb | apply zAd | apply zAa)); exact BK110.out)) : gb117 ≠ gb110)); have n11_:=Aside0.mk ((by rw [hg]; exact Nat.ne_of_lt (blk_lt (g:=gb111) (o:=.cells #[.slice none 0 0,.int .i64 0] 30 (0,0)) (by (with_reducible repeat (first | apply zAb | apply zAd | apply zAa)); exact BK111.out)) : gb111 ≠ gb117)); have n12_:=Aside0.mk ((by rw [hg]; exact Nat.ne_of_gt (blk_lt (g:=gb111) (o:=.cells #[.slice none 0 0,.int .i64 0] 30 (0,0)) (by (with_reducible repeat (first | apply zAb | apply zAd | apply zAa)); exact BK111.out)) : gb117 ≠ gb111)); have n13_:=Aside0.mk ((by rw [hg]; exact Nat.ne_of_lt (blk_lt (g:=gb112) (o:=.cells #[u113000,.int .i64 0] 30 (0,0)) (by (with_reducible repeat (first | apply zAb | apply zAd | apply zAa)); exact BK112.out)) : gb112 ≠ gb117)); have n14_:=Aside0.mk ((by rw [hg]; exact Nat.ne_of_gt (blk_lt (g:=gb112) (o:=.cells #[u113000,.int .i64 0] 30 (0,0)) (by (with_reducible repeat (first | apply zAb | apply zAd | apply zAa)); exact BK112.out)) : gb117 ≠ gb112)); clear HO_111004; clear HO_113000; clear BK110; clear BK111; clear BK112; clear HB; have HO_111004:=n0_; have HO_113000:=n1_; have BK110:=n2_; have BK111:=n3_; have BK112:=n4_; have HB:=n5_; have BK117:=n6_; have GW117:=n7_; have GE117:=n8_; have NB110_117:=n9_; have NB117_110:=n10_; have NB111_117:=n11_; have NB117_111:=n12_; have NB112_117:=n13_; have NB117_112:=n14_; clear n0_ n1_ n2_ n3_ n4_ n5_ n6_ n7_ n8_ n9_ n10_ n11_ n12_ n13_ n14_; clear hb hbox hg; have hnb13:=NB117_110.out; have hnc13:=NB110_117.out; have hnb14:=NB117_111.out; have hnc14:=NB111_117.out; have hnb15:=NB117_112.out; have hnc15:=NB112_117.out; have hcz16_0 : w12.cell? ⟨gb117,0,none⟩ = some (.slice none 0 0):=(zAf BK117.out 0).trans rfl; have hcz16_1 : w12.cell? ⟨gb117,1,none⟩ = some (.int .i64 0):=(zAf BK117.out 1).trans rfl; have hfz16_0:=zAe BK117.out 0; have hfz16_1:=zAe BK117.out 1; have hnb17:=NB112_110.out; have hnc17:=NB110_112.out; have hnb18:=NB112_111.out; have hnc18:=NB111_112.out; have hcz19_0 : w12.cell? ⟨gb112,0,none⟩ = some (u113000):=(zAf BK112.out 0).trans rfl; have hcz19_1 : w12.cell? ⟨gb112,1,none⟩ = some (.int .i64 0):=(zAf BK112.out 1).trans rfl; have hfz19_0:=zAe BK112.out 0; have hfz19_1:=zAe BK112.out 1; obtain ⟨Ao20,co20,eo20⟩:=Kd.S_slice HO_113000.out; subst eo20))
      go_loopg [24] k1 (fun kq v24 w' => ∃ (x24_2 : Int) (x113000_2 : List (S24)) (u113000 : Value),v24 = .int .i64 x24_2 ∧ Aside0 (zAS.l1 kq (x113000_1.length : Int) l1 (l1.length : Int) x14_1 ((rd_T30 l1 x14_1).f0) (((rd_T30 l1 x14_1).f0).length : Int) x24_2 a0_0 a0_1 a0_2 a0_3 x111004_1 x113000_2 0 ((rd_T30 l1 x14_1).f0) ((rd_T30 l1 x14_1).f1) = some (r1,r2)) ∧ Aside0 (kq ≤ k1) ∧ Aside0 (Kd.R (Kd.int .i64) 3 w' w.heap.size (fun _ => True) u111004 x111004_1) ∧ Aside0 (Kd.S k24 24 w' w.heap.size (fun k_ => some k_ ≠ (u111004 : Value).ownBlock ∧ k_ ≠ gb110) u113000 x113000_2) ∧ Aside0 (w'.heap[gb110]? = some (.cells #[.int .i64 a0_0,.int .i64 a0_1,.int .i64 a0_2,.string a0_3,u111004] 24 (0,0))) ∧ Aside0 (w'.heap[gb111]? = some (.cells #[(.slice none 0 0),.int .i64 0] 30 (0,0))) ∧ Aside0 (w'.heap[gb112]? = some (.cells #[u113000,.int .i64 0] 30 (0,0))) ∧ Aside0 (w'.heap[gb117]? = some (.cells #[(.slice A116_0 ((rd_T30 l1 x14_1).f0).length c116_0),.int .i64 ((rd_T30 l1 x14_1).f1)] 30 (0,0))) ∧ Aside0 (Below w.heap.size w w'))
      case atStart => exact ⟨(0),(x113000_1),(.slice Ao20 x113000_1.length co20),(by first | rfl | (simp; done) | (simp [*]; done)),H',⟨Nat.le_refl _⟩,⟨by (with_reducible repeat (first | apply Kd.R_alloc | apply Kd.R_drewN | apply Kd.R_drew)); exact Kd.R_mono (Kd.R_far (p:=⟨gb117,1,none⟩) (Kd.R_far (p:=⟨gb117,0,none⟩) (Kd.R_types HO_111004.out BK117.out (by decide)) (fun _ hk => hk.2) (.slice A116_0 ((rd_T30 l1 x14_1).f0).length c116_0)) (fun _ hk => hk.2) (.int .i64 ((rd_T30 l1 x14_1).f1))) (fun _ hk => trivial)⟩,⟨by (with_reducible repeat (first | apply Kd.S_alloc | apply Kd.S_drewN | apply Kd.S_drew)); exact Kd.S_mono (Kd.S_far (p:=⟨gb117,1,none⟩) (Kd.S_far (p:=⟨gb117,0,none⟩) (Kd.S_types HO_113000.out BK117.out (by decide)) (fun _ hk => hk.2) (.slice A116_0 ((rd_T30 l1 x14_1).f0).length c116_0)) (fun _ hk => hk.2) (.int .i64 ((rd_T30 l1 x14_1).f1))) (fun _ hk => ⟨hk.1.1,hk.1.2⟩)⟩,⟨by (with_reducible repeat (first | apply zAb | apply zAd | apply zAa)); refine blk_far ?_ NB110_117.out _; (with_reducible repeat (first | apply zAb | apply zAd | apply zAa)); refine blk_far ?_ NB110_117.out _; (with_reducible repeat (first | apply zAb | apply zAd | apply zAa)); exact BK110.out⟩,⟨by (with_reducible repeat (first | apply zAb | apply zAd | apply zAa)); refine blk_far ?_ NB111_117.out _; (with_reducible repeat (first | apply zAb | apply zAd | apply zAa)); refine blk_far ?_ NB111_117.out _; (with_reducible repeat (first | apply zAb | apply zAd | apply zAa)); exact BK111.out⟩,⟨by (with_reducible repeat (first | apply zAb | apply zAd | apply zAa)); refine blk_far ?_ NB112_117.out _; (with_reducible repeat (first | apply zAb | apply zAd | apply zAa)); refine blk_far ?_ NB112_117.out _; (with_reducible repeat (first | apply zAb | apply zAd | apply zAa)); exact BK112.out⟩,⟨by (with_reducible repeat (first | apply zAb | apply zAd | apply zAa)); refine blk_put (cs:=#[.slice A116_0 ((rd_T30 l1 x14_1).f0).length c116_0,.int .i64 0]) ?_ 1 _ rfl; (with_reducible repeat (first | apply zAb | apply zAd | apply zAa)); refine blk_put (cs:=#[.slice none 0 0,.int .i64 0]) ?_ 0 _ rfl; (with_reducible repeat (first | apply zAb | apply zAd | apply zAa)); exact BK117.out⟩,⟨by repeat (first | (with_reducible first | exact HB.out | apply zAg | apply zAc | apply zAi | refine zAh ?_ GE110.out | refine zAh ?_ GE111.out | refine zAh ?_ GE112.out | refine zAh ?_ GE117.out) | exact HB.out)⟩⟩
      case round =>
       clear H'
       try clear c1
       try clear p1
       try clear q1
       try clear hx1
       try clear p2
       try clear c6
       try clear c7
       try clear c9
       try clear c9b0
       try clear c10
       try clear c10b0
       try clear c11
       try clear c11b0
       try clear p11
       try clear q11
       try clear hx11
       try clear c13
       try clear c14
       try clear c15
       try clear c17
       try clear c18
       try clear hcz16_0
       try clear hcz16_1
       try clear hcz19_0
       try clear hcz19_1
       try clear hcz8_0
       try clear hcz8_1
       try clear hcz8_2
       try clear hcz8_3
       try clear hcz8_4
       try clear hfz16_0
       try clear hfz16_1
       try clear hfz19_0
       try clear hfz19_1
       try clear hfz8_0
       try clear hfz8_1
       try clear hfz8_2
       try clear hfz8_3
       try clear hfz8_4
       try clear hx116_0
       try clear hx116_1
       try clear p116
       try clear p2
       try clear q116
       obtain ⟨x24_2,x113000_2,u113000,rfl,HA,HK2,HO_111004,HO_113000,BK110,BK111,BK112,BK117,HB⟩:=hrel
       cases gk with
       | zero => exact absurd HA.out (by simp [zAS.l1])
       | succ k2 =>
        have H:=HA.out
        clear HA
        simp only [zAS.l1] at H
        by_cases c21 : x24_2 < (((rd_T30 l1 x14_1).f0).length : Int)
        ·rw [if_pos c21] at H
         have c21b0 : decide (x24_2 < (((rd_T30 l1 x14_1).f0).length : Int)) = true:=decide_eq_true c21
         clear c21
         by_cases c22 : 0 ≤ x24_2
         ·rw [if_pos c22] at H
          have c22b0 : decide (0 ≤ x24_2) = true:=decide_eq_true c22
          clear c22
          by_cases c23 : x24_2 < (((rd_T30 l1 x14_1).f0).length : Int)
          ·rw [if_pos c23] at H
           have c23b0 : decide (x24_2 < (((rd_T30 l1 x14_1).f0).length : Int)) = true:=decide_eq_true c23
           clear c23
           replace H:=Option.bind_eq_some_iff.mp H
           obtain ⟨⟨t120,t121,t122,t123,t124⟩,A240,H⟩:=H
           replace H : (if x113000_2.length < 2199023255552 then (zAS.l1 k2 (x113000_1.length : Int) l1 (l1.length : Int) x14_1 ((rd_T30 l1 x14_1).f0) (((rd_T30 l1 x14_1).f0).length : Int) (wrap64 (x24_2 + 1)) a0_0 a0_1 a0_2 a0_3 x111004_1 (x113000_2 ++ [(⟨t120,t121,t122,t123,t124⟩ : S24)]) 0 ((rd_T30 l1 x14_1).f0) ((rd_T30 l1 x14_1).f1)) else (none)) = some (r1,r2):=H
           have A24:=Aside0.mk A240
           clear A240
           by_cases c25 : x113000_2.length < 2199023255552
           ·rw [if_pos c25] at H
            have LMc25:=Aside0.mk c25
            clear c25
            obtain ⟨y127,hy127⟩ : ∃ y_ : List (S24),y_ = (x113000_2 ++ [(⟨t120,t121,t122,t123,t124⟩ : S24)]):=⟨_,rfl⟩
            replace H : (zAS.l1 k2 (x113000_1.length : Int) l1 (l1.length : Int) x14_1 ((rd_T30 l1 x14_1).f0) (((rd_T30 l1 x14_1).f0).length : Int) (wrap64 (x24_2 + 1)) a0_0 a0_1 a0_2 a0_3 x111004_1 y127 0 ((rd_T30 l1 x14_1).f0) ((rd_T30 l1 x14_1).f1)) = some (r1,r2):=by first | (rw [hy127]; with_reducible exact H) | (have H2_:=(Option.bind_some _ _).symm.trans H; rw [hy127]; with_reducible exact H2_) | (have H2_:=(Option.bind_some _ _).symm.trans H; with_reducible exact H2_) | with_reducible exact H | (rw [hy127]; exact H) | exact H
            have Ny127:=Aside0.mk hy127
            clear hy127
            have H':=Aside0.mk H
            clear H
            have p118 : 0 ≤ (x24_2 : Int):=of_decide_eq_true (by first | (with_reducible assumption) | assumption)
            have q118 : x24_2 < (((rd_T30 l1 x14_1).f0).length : Int):=of_decide_eq_true (by first | (with_reducible assumption) | assumption)
            obtain ⟨ad118,A118_4,c118_4,e118,hx118_0,hx118_1,hx118_2,hx118_3,hx118_4,hl118_4,hi118_4⟩:=at_T24 HR116_0.out x24_2 p118 q118
            cases e118
            replace hx118_0:=(HB.out.cell (World.block_lt_of_cell? w _ hx118_0)).trans hx118_0
            replace hx118_1:=(HB.out.cell (World.block_lt_of_cell? w _ hx118_1)).trans hx118_1
            replace hx118_2:=(HB.out.cell (World.block_lt_of_cell? w _ hx118_2)).trans hx118_2
            replace hx118_3:=(HB.out.cell (World.block_lt_of_cell? w _ hx118_3)).trans hx118_3
            replace hx118_4:=(HB.out.cell (World.block_lt_of_cell? w _ hx118_4)).trans hx118_4
            have HR118_4:=Aside0.mk hi118_4
            have HC118_4:=Aside0.mk hl118_4
            clear hi118_4 hl118_4
            replace p118:=eq_true p118
            replace q118:=eq_true q118
            try go_wp2_with (first | ((with_reducible refine zAM (N:=10) rfl ?_); refine zAL ?hg (N:=10) ?hd (cs:=#[.int .i64 0,.int .i64 0,.int .i64 0,.string (⟨#[]⟩ : ByteArray),.slice none 0 0]) (t:=24) ?hr ?_; (case hd => rfl); (case hg => rfl); (case hr => first | (go_simp; done) | (go_simp; rfl)); intro gb119 hg w26 hbox hb; have n0_:=Aside0.mk (Kd.R_below (by (with_reducible repeat (first | apply Kd.R_alloc | apply Kd.R_drewN | apply Kd.R_drew)); exact HO_111004.out) hb); have n1_:=Aside0.mk (Kd.S_below (Kd.zCB (by (with_reducible repeat (first | apply Kd.S_alloc | apply Kd.S_drewN | apply Kd.S_drew)); exact HO_113000.out) gb119 (Nat.le_of_eq hg.symm)) hb); have n2_:=Aside0.mk (zAs (g:=gb110) (o:=.cells #[.int .i64 a0_0,.int .i64 a0_1,.int .i64 a0_2,.string a0_3,u111004] 24 (0,0)) (by (with_reducible repeat (first | apply zAb | apply zAd | apply zAa)); exact BK110.out) hb); have n3_:=Aside0.mk (zAs (g:=gb111) (o:=.cells #[.slice none 0 0,.int .i64 0] 30 (0,0)) (by (with_reducible repeat (first | apply zAb | apply zAd | apply zAa)); exact BK111.out) hb); have n4_:=Aside0.mk (zAs (g:=gb112) (o:=.cells #[u113000,.int .i64 0] 30 (0,0)) (by (with_reducible repeat (first | apply zAb | apply zAd | apply zAa)); exact BK112.out) hb); have n5_:=Aside0.mk (zAs (g:=gb117) (o:=.cells #[.slice (some ad118) ((rd_T30 l1 x14_1).f0).length c116_0,.int .i64 ((rd_T30 l1 x14_1).f1)] 30 (0,0)) (by (with_reducible repeat (first | apply zAb | apply zAd | apply zAa)); exact BK117.out) hb); have n6_:=Aside0.mk (zAm (by repeat (first | (with_reducible first | exact HB.out | apply zAg | apply zAc | apply zAi | refine zAh ?_ GE110.out | refine zAh ?_ GE111.out | refine zAh ?_ GE112.out | refine zAh ?_ GE117.out) | exact HB.out)) hb); have n7_:=Aside0.mk (hbox); have n8_:=Aside0.mk ((by rw [hg]; exact (zAp (by repeat (first | (with_reducible first | exact HB.out | apply zAg | apply zAc | apply zAi | refine zAh ?_ GE110.out | refine zAh ?_ GE111.out | refine zAh ?_ GE112.out | refine zAh ?_ GE117.out) | exact HB.out))) : w.heap.size ≤ gb119)); have n9_:=Aside0.mk ((by rw [hg]; exact (zAp (by repeat (first | (with_reducible first | exact HB.out | apply zAg | apply zAc | apply zAi | refine zAh ?_ GE110.out | refine zAh ?_ GE111.out | refine zAh ?_ GE112.out | refine zAh ?_ GE117.out) | exact HB.out))) : w.heap.size ≤ gb119)); have n10_:=Aside0.mk ((by rw [hg]; exact Nat.ne_of_lt (blk_lt (g:=gb110) (o:=.cells #[.int .i64 a0_0,.int .i64 a0_1,.int .i64 a0_2,.string a0_3,u111004] 24 (0,0)) (by (with_reducible repeat (first | apply zAb | apply zAd | apply zAa)); exact BK110.out)) : gb110 ≠ gb119)); have n11_:=Aside0.mk ((by rw [hg]; exact Nat.ne_of_gt (blk_lt (g:=gb110) (o:=.cells #[.int .i64 a0_0,.int .i64 a0_1,.int .i64 a0_2,.string a0_3,u111004] 24 (0,0)) (by (with_reducible repeat (first | apply zAb | apply zAd | apply zAa)); exact BK110.out)) : gb119 ≠ gb110)); have n12_:=Aside0.mk ((by rw [hg]; exact Nat.ne_of_lt (blk_lt (g:=gb111) (o:=.cells #[.slice none 0 0,.int .i64 0] 30 (0,0)) (by (with_reducible repeat (first | apply zAb | apply zAd | apply zAa)); exact BK111.out)) : gb111 ≠ gb119)); have n13_:=Aside0.mk ((by rw [hg]; exact Nat.ne_of_gt (blk_lt (g:=gb111) (o:=.cells #[.slice none 0 0,.int .i64 0] 30 (0,0)) (by (with_reducible repeat (first | apply zAb | apply zAd | apply zAa)); exact BK111.out)) : gb119 ≠ gb111)); have n14_:=Aside0.mk ((by rw [hg]; exact Nat.ne_of_lt (blk_lt (g:=gb112) (o:=.cells #[u113000,.int .i64 0] 30 (0,0)) (by (with_reducible repeat (first | apply zAb | apply zAd | apply zAa)); exact BK112.out)) : gb112 ≠ gb119)); have n15_:=Aside0.mk ((by rw [hg]; exact Nat.ne_of_gt (blk_lt (g:=gb112) (o:=.cells #[u113000,.int .i64 0] 30 (0,0)) (by (with_reducible repeat (first | apply zAb | apply zAd | apply zAa)); exact BK112.out)) : gb119 ≠ gb112)); have n16_:=Aside0.mk ((by rw [hg]; exact Nat.ne_of_lt (blk_lt (g:=gb117) (o:=.cells #[.slice (some ad118) ((rd_T30 l1 x14_1).f0).length c116_0,.int .i64 ((rd_T30 l1 x14_1).f1)] 30 (0,0)) (by (with_reducible repeat (first | apply zAb | apply zAd | apply zAa)); exact BK117.out)) : gb117 ≠ gb119)); have n17_:=Aside0.mk ((by rw [hg]; exact Nat.ne_of_gt (blk_lt (g:=gb117) (o:=.cells #[.slice (some ad118) ((rd_T30 l1 x14_1).f0).length c116_0,.int .i64 ((rd_T30 l1 x14_1).f1)] 30 (0,0)) (by (with_reducible repeat (first | apply zAb | apply zAd | apply zAa)); exact BK117.out)) : gb119 ≠ gb117)); clear HO_111004; clear HO_113000; clear BK110; clear BK111; clear BK112; clear BK117; clear HB; have HO_111004:=n0_; have HO_113000:=n1_; have BK110:=n2_; have BK111:=n3_; have BK112:=n4_; have BK117:=n5_; have HB:=n6_; have BK119:=n7_; have GW119:=n8_; have GE119:=n9_; have NB110_119:=n10_; have NB119_110:=n11_; have NB111_119:=n12_; have NB119_111:=n13_; have NB112_119:=n14_; have NB119_112:=n15_; have NB117_119:=n16_; have NB119_117:=n17_; clear n0_ n1_ n2_ n3_ n4_ n5_ n6_ n7_ n8_ n9_ n10_ n11_ n12_ n13_ n14_ n15_ n16_ n17_; clear hb hbox hg; have hnb27:=NB119_110.out; have hnc27:=NB110_119.out; have hnb28:=NB119_111.out; have hnc28:=NB111_119.out; have hnb29:=NB119_112.out; have hnc29:=NB112_119.out; have hnb30:=NB119_117.out; have hnc30:=NB117_119.out; have hcz31_0 : w26.cell? ⟨gb119,0,none⟩ = some (.int .i64 0):=(zAf BK119.out 0).trans rfl; have hcz31_1 : w26.cell? ⟨gb119,1,none⟩ = some (.int .i64 0):=(zAf BK119.out 1).trans rfl; have hcz31_2 : w26.cell? ⟨gb119,2,none⟩ = some (.int .i64 0):=(zAf BK119.out 2).trans rfl; have hcz31_3 : w26.cell? ⟨gb119,3,none⟩ = some (.string (⟨#[]⟩ : ByteArray)):=(zAf BK119.out 3).trans rfl; have hcz31_4 : w26.cell? ⟨gb119,4,none⟩ = some (.slice none 0 0):=(zAf BK119.out 4).trans rfl; have hfz31_0:=zAe BK119.out 0; have hfz31_1:=zAe BK119.out 1; have hfz31_2:=zAe BK119.out 2; have hfz31_3:=zAe BK119.out 3; have hfz31_4:=zAe BK119.out 4))
            have n0_ : Aside0 (Kd.R (Kd.int .i64) 3 (((((w26.setCell ⟨gb119,0,none⟩ (.int .i64 ((rd_T24 ((rd_T30 l1 x14_1).f0) x24_2).f0))).setCell ⟨gb119,1,none⟩ (.int .i64 ((rd_T24 ((rd_T30 l1 x14_1).f0) x24_2).f1))).setCell ⟨gb119,2,none⟩ (.int .i64 ((rd_T24 ((rd_T30 l1 x14_1).f0) x24_2).f2))).setCell ⟨gb119,3,none⟩ (.string ((rd_T24 ((rd_T30 l1 x14_1).f0) x24_2).f3))).setCell ⟨gb119,4,none⟩ (.slice A118_4 ((rd_T24 ((rd_T30 l1 x14_1).f0) x24_2).f4).length c118_4)) w.heap.size (fun _ => True) u111004 x111004_1):=⟨by (with_reducible repeat (first | apply Kd.R_alloc | apply Kd.R_drewN | apply Kd.R_drew)); exact Kd.R_mono (Kd.R_far (p:=⟨gb119,4,none⟩) (Kd.R_far (p:=⟨gb119,3,none⟩) (Kd.R_far (p:=⟨gb119,2,none⟩) (Kd.R_far (p:=⟨gb119,1,none⟩) (Kd.R_far (p:=⟨gb119,0,none⟩) (Kd.R_types HO_111004.out BK119.out (by decide)) (fun _ hk => hk.2) (.int .i64 ((rd_T24 ((rd_T30 l1 x14_1).f0) x24_2).f0))) (fun _ hk => hk.2) (.int .i64 ((rd_T24 ((rd_T30 l1 x14_1).f0) x24_2).f1))) (fun _ hk => hk.2) (.int .i64 ((rd_T24 ((rd_T30 l1 x14_1).f0) x24_2).f2))) (fun _ hk => hk.2) (.string ((rd_T24 ((rd_T30 l1 x14_1).f0) x24_2).f3))) (fun _ hk => hk.2) (.slice A118_4 ((rd_T24 ((rd_T30 l1 x14_1).f0) x24_2).f4).length c118_4)) (fun _ hk => trivial)⟩
            have n1_ : Aside0 (Kd.S k24 24 (((((w26.setCell ⟨gb119,0,none⟩ (.int .i64 ((rd_T24 ((rd_T30 l1 x14_1).f0) x24_2).f0))).setCell ⟨gb119,1,none⟩ (.int .i64 ((rd_T24 ((rd_T30 l1 x14_1).f0) x24_2).f1))).setCell ⟨gb119,2,none⟩ (.int .i64 ((rd_T24 ((rd_T30 l1 x14_1).f0) x24_2).f2))).setCell ⟨gb119,3,none⟩ (.string ((rd_T24 ((rd_T30 l1 x14_1).f0) x24_2).f3))).setCell ⟨gb119,4,none⟩ (.slice A118_4 ((rd_T24 ((rd_T30 l1 x14_1).f0) x24_2).f4).length c118_4)) w.heap.size (fun k_ => some k_ ≠ (u111004 : Value).ownBlock ∧ k_ ≠ gb110 ∧ k_ ≠ gb119) u113000 x113000_2):=⟨by (with_reducible repeat (first | apply Kd.S_alloc | apply Kd.S_drewN | apply Kd.S_drew)); exact Kd.S_mono (Kd.S_far (p:=⟨gb119,4,none⟩) (Kd.S_far (p:=⟨gb119,3,none⟩) (Kd.S_far (p:=⟨gb119,2,none⟩) (Kd.S_far (p:=⟨gb119,1,none⟩) (Kd.S_far (p:=⟨gb119,0,none⟩) (Kd.S_mono HO_113000.out (fun k_ hk => (⟨hk,hk.2⟩ : _ ∧ k_ ≠ gb119))) (fun _ hk => hk.2) (.int .i64 ((rd_T24 ((rd_T30 l1 x14_1).f0) x24_2).f0))) (fun _ hk => hk.2) (.int .i64 ((rd_T24 ((rd_T30 l1 x14_1).f0) x24_2).f1))) (fun _ hk => hk.2) (.int .i64 ((rd_T24 ((rd_T30 l1 x14_1).f0) x24_2).f2))) (fun _ hk => hk.2) (.string ((rd_T24 ((rd_T30 l1 x14_1).f0) x24_2).f3))) (fun _ hk => hk.2) (.slice A118_4 ((rd_T24 ((rd_T30 l1 x14_1).f0) x24_2).f4).length c118_4)) (fun _ hk => ⟨hk.1.1.1,⟨hk.1.1.2,hk.1.2⟩⟩)⟩
            have n2_ : Aside0 ((((((w26.setCell ⟨gb119,0,none⟩ (.int .i64 ((rd_T24 ((rd_T30 l1 x14_1).f0) x24_2).f0))).setCell ⟨gb119,1,none⟩ (.int .i64 ((rd_T24 ((rd_T30 l1 x14_1).f0) x24_2).f1))).setCell ⟨gb119,2,none⟩ (.int .i64 ((rd_T24 ((rd_T30 l1 x14_1).f0) x24_2).f2))).setCell ⟨gb119,3,none⟩ (.string ((rd_T24 ((rd_T30 l1 x14_1).f0) x24_2).f3))).setCell ⟨gb119,4,none⟩ (.slice A118_4 ((rd_T24 ((rd_T30 l1 x14_1).f0) x24_2).f4).length c118_4)).heap[gb110]? = some (.cells #[.int .i64 a0_0,.int .i64 a0_1,.int .i64 a0_2,.string a0_3,u111004] 24 (0,0))):=⟨by (with_reducible repeat (first | apply zAb | apply zAd | apply zAa)); refine blk_far ?_ NB110_119.out _; (with_reducible repeat (first | apply zAb | apply zAd | apply zAa)); refine blk_far ?_ NB110_119.out _; (with_reducible repeat (first | apply zAb | apply zAd | apply zAa)); refine blk_far ?_ NB110_119.out _; (with_reducible repeat (first | apply zAb | apply zAd | apply zAa)); refine blk_far ?_ NB110_119.out _; (with_reducible repeat (first | apply zAb | apply zAd | apply zAa)); refine blk_far ?_ NB110_119.out _; (with_reducible repeat (first | apply zAb | apply zAd | apply zAa)); exact BK110.out⟩
            have n3_ : Aside0 ((((((w26.setCell ⟨gb119,0,none⟩ (.int .i64 ((rd_T24 ((rd_T30 l1 x14_1).f0) x24_2).f0))).setCell ⟨gb119,1,none⟩ (.int .i64 ((rd_T24 ((rd_T30 l1 x14_1).f0) x24_2).f1))).setCell ⟨gb119,2,none⟩ (.int .i64 ((rd_T24 ((rd_T30 l1 x14_1).f0) x24_2).f2))).setCell ⟨gb119,3,none⟩ (.string ((rd_T24 ((rd_T30 l1 x14_1).f0) x24_2).f3))).setCell ⟨gb119,4,none⟩ (.slice A118_4 ((rd_T24 ((rd_T30 l1 x14_1).f0) x24_2).f4).length c118_4)).heap[gb111]? = some (.cells #[.slice none 0 0,.int .i64 0] 30 (0,0))):=⟨by (with_reducible repeat (first | apply zAb | apply zAd | apply zAa)); refine blk_far ?_ NB111_119.out _; (with_reducible repeat (first | apply zAb | apply zAd | apply zAa)); refine blk_far ?_ NB111_119.out _; (with_reducible repeat (first | apply zAb | apply zAd | apply zAa)); refine blk_far ?_ NB111_119.out _; (with_reducible repeat (first | apply zAb | apply zAd | apply zAa)); refine blk_far ?_ NB111_119.out _; (with_reducible repeat (first | apply zAb | apply zAd | apply zAa)); refine blk_far ?_ NB111_119.out _; (with_reducible repeat (first | apply zAb | apply zAd | apply zAa)); exact BK111.out⟩
            have n4_ : Aside0 ((((((w26.setCell ⟨gb119,0,none⟩ (.int .i64 ((rd_T24 ((rd_T30 l1 x14_1).f0) x24_2).f0))).setCell ⟨gb119,1,none⟩ (.int .i64 ((rd_T24 ((rd_T30 l1 x14_1).f0) x24_2).f1))).setCell ⟨gb119,2,none⟩ (.int .i64 ((rd_T24 ((rd_T30 l1 x14_1).f0) x24_2).f2))).setCell ⟨gb119,3,none⟩ (.string ((rd_T24 ((rd_T30 l1 x14_1).f0) x24_2).f3))).setCell ⟨gb119,4,none⟩ (.slice A118_4 ((rd_T24 ((rd_T30 l1 x14_1).f0) x24_2).f4).length c118_4)).heap[gb112]? = some (.cells #[u113000,.int .i64 0] 30 (0,0))):=⟨by (with_reducible repeat (first | apply zAb | apply zAd | apply zAa)); refine blk_far ?_ NB112_119.out _; (with_reducible repeat (first | apply zAb | apply zAd | apply zAa)); refine blk_far ?_ NB112_119.out _; (with_reducible repeat (first | apply zAb | apply zAd | apply zAa)); refine blk_far ?_ NB112_119.out _; (with_reducible repeat (first | apply zAb | apply zAd | apply zAa)); refine blk_far ?_ NB112_119.out _; (with_reducible repeat (first | apply zAb | apply zAd | apply zAa)); refine blk_far ?_ NB112_119.out _; (with_reducible repeat (first | apply zAb | apply zAd | apply zAa)); exact BK112.out⟩
            have n5_ : Aside0 ((((((w26.setCell ⟨gb119,0,none⟩ (.int .i64 ((rd_T24 ((rd_T30 l1 x14_1).f0) x24_2).f0))).setCell ⟨gb119,1,none⟩ (.int .i64 ((rd_T24 ((rd_T30 l1 x14_1).f0) x24_2).f1))).setCell ⟨gb119,2,none⟩ (.int .i64 ((rd_T24 ((rd_T30 l1 x14_1).f0) x24_2).f2))).setCell ⟨gb119,3,none⟩ (.string ((rd_T24 ((rd_T30 l1 x14_1).f0) x24_2).f3))).setCell ⟨gb119,4,none⟩ (.slice A118_4 ((rd_T24 ((rd_T30 l1 x14_1).f0) x24_2).f4).length c118_4)).heap[gb117]? = some (.cells #[.slice (some ad118) ((rd_T30 l1 x14_1).f0).length c116_0,.int .i64 ((rd_T30 l1 x14_1).f1)] 30 (0,0))):=⟨by (with_reducible repeat (first | apply zAb | apply zAd | apply zAa)); refine blk_far ?_ NB117_119.out _; (with_reducible repeat (first | apply zAb | apply zAd | apply zAa)); refine blk_far ?_ NB117_119.out _; (with_reducible repeat (first | apply zAb | apply zAd | apply zAa)); refine blk_far ?_ NB117_119.out _; (with_reducible repeat (first | apply zAb | apply zAd | apply zAa)); refine blk_far ?_ NB117_119.out _; (with_reducible repeat (first | apply zAb | apply zAd | apply zAa)); refine blk_far ?_ NB117_119.out _; (with_reducible repeat (first | apply zAb | apply zAd | apply zAa)); exact BK117.out⟩
            have n6_ : Aside0 ((((((w26.setCell ⟨gb119,0,none⟩ (.int .i64 ((rd_T24 ((rd_T30 l1 x14_1).f0) x24_2).f0))).setCell ⟨gb119,1,none⟩ (.int .i64 ((rd_T24 ((rd_T30 l1 x14_1).f0) x24_2).f1))).setCell ⟨gb119,2,none⟩ (.int .i64 ((rd_T24 ((rd_T30 l1 x14_1).f0) x24_2).f2))).setCell ⟨gb119,3,none⟩ (.string ((rd_T24 ((rd_T30 l1 x14_1).f0) x24_2).f3))).setCell ⟨gb119,4,none⟩ (.slice A118_4 ((rd_T24 ((rd_T30 l1 x14_1).f0) x24_2).f4).length c118_4)).heap[gb119]? = some (.cells #[.int .i64 ((rd_T24 ((rd_T30 l1 x14_1).f0) x24_2).f0),.int .i64 ((rd_T24 ((rd_T30 l1 x14_1).f0) x24_2).f1),.int .i64 ((rd_T24 ((rd_T30 l1 x14_1).f0) x24_2).f2),.string ((rd_T24 ((rd_T30 l1 x14_1).f0) x24_2).f3),.slice A118_4 ((rd_T24 ((rd_T30 l1 x14_1).f0) x24_2).f4).length c118_4] 24 (0,0))):=⟨by (with_reducible repeat (first | apply zAb | apply zAd | apply zAa)); refine blk_put (cs:=#[.int .i64 ((rd_T24 ((rd_T30 l1 x14_1).f0) x24_2).f0),.int .i64 ((rd_T24 ((rd_T30 l1 x14_1).f0) x24_2).f1),.int .i64 ((rd_T24 ((rd_T30 l1 x14_1).f0) x24_2).f2),.string ((rd_T24 ((rd_T30 l1 x14_1).f0) x24_2).f3),.slice none 0 0]) ?_ 4 _ rfl; (with_reducible repeat (first | apply zAb | apply zAd | apply zAa)); refine blk_put (cs:=#[.int .i64 ((rd_T24 ((rd_T30 l1 x14_1).f0) x24_2).f0),.int .i64 ((rd_T24 ((rd_T30 l1 x14_1).f0) x24_2).f1),.int .i64 ((rd_T24 ((rd_T30 l1 x14_1).f0) x24_2).f2),.string (⟨#[]⟩ : ByteArray),.slice none 0 0]) ?_ 3 _ rfl; (with_reducible repeat (first | apply zAb | apply zAd | apply zAa)); refine blk_put (cs:=#[.int .i64 ((rd_T24 ((rd_T30 l1 x14_1).f0) x24_2).f0),.int .i64 ((rd_T24 ((rd_T30 l1 x14_1).f0) x24_2).f1),.int .i64 0,.string (⟨#[]⟩ : ByteArray),.slice none 0 0]) ?_ 2 _ rfl; (with_reducible repeat (first | apply zAb | apply zAd | apply zAa)); refine blk_put (cs:=#[.int .i64 ((rd_T24 ((rd_T30 l1 x14_1).f0) x24_2).f0),.int .i64 0,.int .i64 0,.string (⟨#[]⟩ : ByteArray),.slice none 0 0]) ?_ 1 _ rfl; (with_reducible repeat (first | apply zAb | apply zAd | apply zAa)); refine blk_put (cs:=#[.int .i64 0,.int .i64 0,.int .i64 0,.string (⟨#[]⟩ : ByteArray),.slice none 0 0]) ?_ 0 _ rfl; (with_reducible repeat (first | apply zAb | apply zAd | apply zAa)); exact BK119.out⟩
            have n7_ : Aside0 (Below w.heap.size w (((((w26.setCell ⟨gb119,0,none⟩ (.int .i64 ((rd_T24 ((rd_T30 l1 x14_1).f0) x24_2).f0))).setCell ⟨gb119,1,none⟩ (.int .i64 ((rd_T24 ((rd_T30 l1 x14_1).f0) x24_2).f1))).setCell ⟨gb119,2,none⟩ (.int .i64 ((rd_T24 ((rd_T30 l1 x14_1).f0) x24_2).f2))).setCell ⟨gb119,3,none⟩ (.string ((rd_T24 ((rd_T30 l1 x14_1).f0) x24_2).f3))).setCell ⟨gb119,4,none⟩ (.slice A118_4 ((rd_T24 ((rd_T30 l1 x14_1).f0) x24_2).f4).length c118_4))):=⟨by repeat (first | (with_reducible first | exact HB.out | apply zAg | apply zAc | apply zAi | refine zAh ?_ GE110.out | refine zAh ?_ GE111.out | refine zAh ?_ GE112.out | refine zAh ?_ GE117.out | refine zAh ?_ GE119.out) | exact HB.out)⟩
            (try clear HO_111004)
            (try clear HO_113000)
            (try clear BK110)
            (try clear BK111)
            (try clear BK112)
            (try clear BK117)
            (try clear BK119)
            (try clear HB)
            generalize (((((w26.setCell ⟨gb119,0,none⟩ (.int .i64 ((rd_T24 ((rd_T30 l1 x14_1).f0) x24_2).f0))).setCell ⟨gb119,1,none⟩ (.int .i64 ((rd_T24 ((rd_T30 l1 x14_1).f0) x24_2).f1))).setCell ⟨gb119,2,none⟩ (.int .i64 ((rd_T24 ((rd_T30 l1 x14_1).f0) x24_2).f2))).setCell ⟨gb119,3,none⟩ (.string ((rd_T24 ((rd_T30 l1 x14_1).f0) x24_2).f3))).setCell ⟨gb119,4,none⟩ (.slice A118_4 ((rd_T24 ((rd_T30 l1 x14_1).f0) x24_2).f4).length c118_4)) = w32 at n0_ n1_ n2_ n3_ n4_ n5_ n6_ n7_ ⊢
            have HO_111004:=n0_
            have HO_113000:=n1_
            have BK110:=n2_
            have BK111:=n3_
            have BK112:=n4_
            have BK117:=n5_
            have BK119:=n6_
            have HB:=n7_
            clear n0_ n1_ n2_ n3_ n4_ n5_ n6_ n7_
            have n0_:=Aside0.mk (Kd.R_drew HO_111004.out)
            have n1_:=Aside0.mk (Kd.S_drew HO_113000.out)
            have n2_:=Aside0.mk (zAd BK110.out)
            have n3_:=Aside0.mk (zAd BK111.out)
            have n4_:=Aside0.mk (zAd BK112.out)
            have n5_:=Aside0.mk (zAd BK117.out)
            have n6_:=Aside0.mk (zAd BK119.out)
            have n7_:=Aside0.mk (zAi HB.out)
            clear HO_111004
            clear HO_113000
            clear BK110
            clear BK111
            clear BK112
            clear BK117
            clear BK119
            clear HB
            have HO_111004:=n0_
            have HO_113000:=n1_
            have BK110:=n2_
            have BK111:=n3_
            have BK112:=n4_
            have BK117:=n5_
            have BK119:=n6_
            have HB:=n7_
            clear n0_ n1_ n2_ n3_ n4_ n5_ n6_ n7_
            refine start_ (n:=9) (S:=fun w' => w'.cell? ⟨gb112,0,none⟩ = some (u113000) ∧ w'.cell? ⟨gb112,1,none⟩ = some (.int .i64 0) ∧ w'.cell? ⟨gb119,0,none⟩ = some (.int .i64 ((rd_T24 ((rd_T30 l1 x14_1).f0) x24_2).f0)) ∧ w'.cell? ⟨gb119,1,none⟩ = some (.int .i64 ((rd_T24 ((rd_T30 l1 x14_1).f0) x24_2).f1)) ∧ w'.cell? ⟨gb119,2,none⟩ = some (.int .i64 ((rd_T24 ((rd_T30 l1 x14_1).f0) x24_2).f2)) ∧ w'.cell? ⟨gb119,3,none⟩ = some (.string ((rd_T24 ((rd_T30 l1 x14_1).f0) x24_2).f3)) ∧ w'.cell? ⟨gb119,4,none⟩ = some (.slice A118_4 ((rd_T24 ((rd_T30 l1 x14_1).f0) x24_2).f4).length c118_4)) (ds:=[8]) #[false,false,false,false,false,false,false,false,false] (by kernel_rfl) rfl rfl ⟨(zAf BK112.out 0).trans rfl,(zAf BK112.out 1).trans rfl,(zAf BK119.out 0).trans rfl,(zAf BK119.out 1).trans rfl,(zAf BK119.out 2).trans rfl,(zAf BK119.out 3).trans rfl,(zAf BK119.out 4).trans rfl⟩ (fun hHeld => ?_); refine zBs zAS.tab10 zAS.bits10 (fun HT_ HW_ => ?_)
            generalize w32.drew = w33 at HO_111004 HO_113000 BK110 BK111 BK112 BK117 BK119 HB hHeld ⊢
            refine pure_ (i:=0) (N:=some 28) (v:=?_) (a':=?_) #[true,false,false,false,false,false,false,false,false] rfl rfl (any_of HT_.out (by kernel_rfl)) (fun _ _ _ h => h) (Or.inl ⟨by rfl,?_⟩) ?_ ?_
            rotate_left
            ·intro w'
             go_simp
             with_reducible rfl
            rotate_left
            ·simp only [Act.put,List.setIfInBounds_toArray,List.set_cons_zero,List.set_cons_succ,i64_w,i32_w]
             rfl
            refine pure_ (i:=3) (N:=some 31) (v:=?_) (a':=?_) #[true,false,false,true,false,false,false,false,false] rfl rfl (any_of HT_.out (by kernel_rfl)) (fun _ _ _ h => h) (Or.inl ⟨by rfl,?_⟩) ?_ ?_
            rotate_left
            ·intro w'
             go_simp
             with_reducible rfl
            rotate_left
            ·simp only [Act.put,List.setIfInBounds_toArray,List.set_cons_zero,List.set_cons_succ,i64_w,i32_w]
             rfl
            refine take_ (i:=1) (N:=some 29) (v:=?_) (a':=?_) #[true,true,false,true,false,false,false,false,false] rfl rfl (zBb HT_.out HW_.out (by kernel_rfl)) (fun _ _ _ h => h) (Or.inl ⟨by rfl,?_⟩) hHeld ?_ ?_
            rotate_left
            ·rintro w' ⟨s0,s1,s2,s3,s4,s5,s6⟩
             go_simp
             with_reducible rfl
            rotate_left
            ·simp only [Act.put,List.setIfInBounds_toArray,List.set_cons_zero,List.set_cons_succ,i64_w,i32_w]
             rfl
            refine take_ (i:=2) (N:=some 30) (v:=?_) (a':=?_) #[true,true,true,true,false,false,false,false,false] rfl rfl (zBb HT_.out HW_.out (by kernel_rfl)) (fun _ _ _ h => h) (Or.inl ⟨by rfl,?_⟩) hHeld ?_ ?_
            rotate_left
            ·rintro w' ⟨s0,s1,s2,s3,s4,s5,s6⟩
             go_simp
             with_reducible rfl
            rotate_left
            ·simp only [Act.put,List.setIfInBounds_toArray,List.set_cons_zero,List.set_cons_succ,i64_w,i32_w]
             rfl
            refine one_ (i:=4) (N:=some 32) #[true,true,true,true,true,false,false,false,false] rfl rfl (one_of HT_.out (by kernel_rfl)) (by decide) (fun K hK => ?_)
            refine goes_ Try.func26 (by kernel_rfl) rfl #[.agg #[.int .i64 ((rd_T24 ((rd_T30 l1 x14_1).f0) x24_2).f0),.int .i64 ((rd_T24 ((rd_T30 l1 x14_1).f0) x24_2).f1),.int .i64 ((rd_T24 ((rd_T30 l1 x14_1).f0) x24_2).f2),.string ((rd_T24 ((rd_T30 l1 x14_1).f0) x24_2).f3),.slice A118_4 ((rd_T24 ((rd_T30 l1 x14_1).f0) x24_2).f4).length c118_4],.int .i64 (x113000_1.length : Int)] (by rfl) rfl rfl (by (try simp only [List.map_toArray,List.map_cons,List.map_nil]); first | done | rfl | (simp only [List.length_drop,List.length_take]; rfl)) ?_
            with_reducible refine (zBc.calls k2 ((rd_T24 ((rd_T30 l1 x14_1).f0) x24_2).f0) ((rd_T24 ((rd_T30 l1 x14_1).f0) x24_2).f1) ((rd_T24 ((rd_T30 l1 x14_1).f0) x24_2).f2) ((rd_T24 ((rd_T30 l1 x14_1).f0) x24_2).f3) _ _ ((rd_T24 ((rd_T30 l1 x14_1).f0) x24_2).f4) (x113000_1.length : Int) t120 t121 t122 t123 t124 _ ?side1 ?side2 A24.out).mono ?_
            (case side1 => repeat (first | exact (Kd.C_below HR118_4.out HB.out) | (with_reducible refine Kd.C_alloc ?_ _) | (with_reducible refine Kd.C_drewN ?_ _) | (with_reducible refine Kd.C_drew ?_)))
            (case side2 => exact HC118_4.out)
            rintro e w34 ⟨v125,rfl,ho0,hb⟩
            refine ⟨_,rfl,?_⟩
            have n0_:=Aside0.mk (Kd.zCq (by (with_reducible repeat (first | apply Kd.R_alloc | apply Kd.R_drewN | apply Kd.R_drew)); exact HO_111004.out) (Kd.R_base ho0) hb)
            have n1_:=Aside0.mk (Kd.zCC (by (with_reducible repeat (first | apply Kd.S_alloc | apply Kd.S_drewN | apply Kd.S_drew)); exact HO_113000.out) (Kd.R_base ho0) hb)
            have n2_:=Aside0.mk (Kd.R_lower (Kd.R_new' ho0 (Kd.R_lt (by (with_reducible repeat (first | apply Kd.R_alloc | apply Kd.R_drewN | apply Kd.R_drew)); exact HO_111004.out))) (zAp (by repeat (first | (with_reducible first | exact HB.out | apply zAg | apply zAc | apply zAi | refine zAh ?_ GE110.out | refine zAh ?_ GE111.out | refine zAh ?_ GE112.out | refine zAh ?_ GE117.out | refine zAh ?_ GE119.out) | exact HB.out))))
            have n3_:=Aside0.mk (zAs (g:=gb110) (o:=.cells #[.int .i64 a0_0,.int .i64 a0_1,.int .i64 a0_2,.string a0_3,u111004] 24 (0,0)) (by (with_reducible repeat (first | apply zAb | apply zAd | apply zAa)); exact BK110.out) hb)
            have n4_:=Aside0.mk (zAs (g:=gb111) (o:=.cells #[.slice none 0 0,.int .i64 0] 30 (0,0)) (by (with_reducible repeat (first | apply zAb | apply zAd | apply zAa)); exact BK111.out) hb)
            have n5_:=Aside0.mk (zAs (g:=gb112) (o:=.cells #[u113000,.int .i64 0] 30 (0,0)) (by (with_reducible repeat (first | apply zAb | apply zAd | apply zAa)); exact BK112.out) hb)
            have n6_:=Aside0.mk (zAs (g:=gb117) (o:=.cells #[.slice (some ad118) ((rd_T30 l1 x14_1).f0).length c116_0,.int .i64 ((rd_T30 l1 x14_1).f1)] 30 (0,0)) (by (with_reducible repeat (first | apply zAb | apply zAd | apply zAa)); exact BK117.out) hb)
            have n7_:=Aside0.mk (zAs (g:=gb119) (o:=.cells #[.int .i64 ((rd_T24 ((rd_T30 l1 x14_1).f0) x24_2).f0),.int .i64 ((rd_T24 ((rd_T30 l1 x14_1).f0) x24_2).f1),.int .i64 ((rd_T24 ((rd_T30 l1 x14_1).f0) x24_2).f2),.string ((rd_T24 ((rd_T30 l1 x14_1).f0) x24_2).f3),.slice A118_4 ((rd_T24 ((rd_T30 l1 x14_1).f0) x24_2).f4).length c118_4] 24 (0,0)) (by (with_reducible repeat (first | apply zAb | apply zAd | apply zAa)); exact BK119.out) hb)
            have n8_:=Aside0.mk (zAm (by repeat (first | (with_reducible first | exact HB.out | apply zAg | apply zAc | apply zAi | refine zAh ?_ GE110.out | refine zAh ?_ GE111.out | refine zAh ?_ GE112.out | refine zAh ?_ GE117.out | refine zAh ?_ GE119.out) | exact HB.out)) hb)
            clear HO_111004
            clear HO_113000
            clear BK110
            clear BK111
            clear BK112
            clear BK117
            clear BK119
            clear HB
            have HO_111004:=n0_
            have HO_113000:=n1_
            have HO126:=n2_
            have BK110:=n3_
            have BK111:=n4_
            have BK112:=n5_
            have BK117:=n6_
            have BK119:=n7_
            have HB:=n8_
            clear n0_ n1_ n2_ n3_ n4_ n5_ n6_ n7_ n8_
            (try clear hb)
            (try clear hb2)
            (try clear hk)
            (try clear hi)
            (try clear ho0)
            obtain ⟨Ao36,co36,eo36⟩:=Kd.R_slice HO126.out
            (first | subst eo36 | (injection eo36 with f1_ f2_ f3_; have f4_:=f1_.symm; have f5_:=f3_.symm; clear f1_ f2_ f3_; subst f4_; subst f5_))
            refine hK.out _ _ ⟨(zAf BK112.out 0).trans rfl,(zAf BK112.out 1).trans rfl,(zAf BK119.out 0).trans rfl,(zAf BK119.out 1).trans rfl,(zAf BK119.out 2).trans rfl,(zAf BK119.out 3).trans rfl,(zAf BK119.out 4).trans rfl⟩ (fun hHeld => ?_)
            clear hK K
            refine norm_ (a':=?_) ?_ ?_
            rotate_left
            ·show Act.put _ (some 32) _ = _
             simp only [Act.put,List.setIfInBounds_toArray,List.set_cons_zero,List.set_cons_succ,i64_w,i32_w]
             rfl
            refine one_ (i:=5) (N:=some 33) #[true,true,true,true,true,true,false,false,false] rfl rfl (one_of HT_.out (by kernel_rfl)) (by decide) (fun K hK => ?_)
            refine value_ (w1:=?_) (v:=?_) (by rfl) rfl ?_ ?_
            rotate_left 2
            ·go_simp
             constructor
             ·rfl
             ·rfl
            refine hK.out _ _ ⟨(zAf (zAa BK112.out _) 0).trans rfl,(zAf (zAa BK112.out _) 1).trans rfl,(zAf (zAa BK119.out _) 0).trans rfl,(zAf (zAa BK119.out _) 1).trans rfl,(zAf (zAa BK119.out _) 2).trans rfl,(zAf (zAa BK119.out _) 3).trans rfl,(zAf (zAa BK119.out _) 4).trans rfl⟩ (fun hHeld => ?_)
            clear hK K
            refine norm_ (a':=?_) ?_ ?_
            rotate_left
            ·show Act.put _ (some 33) _ = _
             simp only [Act.put,List.setIfInBounds_toArray,List.set_cons_zero,List.set_cons_succ,i64_w,i32_w]
             rfl
            refine one_ (i:=6) (N:=some 34) #[true,true,true,true,true,true,true,false,false] rfl rfl (one_of HT_.out (by kernel_rfl)) (by decide) (fun K hK => ?_)
            refine Kd.S_append_step k24 (w0:=w) w.heap.size (by rfl) (.tmp 29) (.tmp 33) 28 24 (.agg #[(.int .i64 0),(.int .i64 0),(.int .i64 0),(.string ⟨#[]⟩),(.slice none 0 0)]) 64 rfl Try.underlying28 info24 rfl (by decide) (by omega) u113000 x113000_2 (⟨t120,t121,t122,t123,t124⟩ : S24) [.int .i64 t120,.int .i64 t121,.int .i64 t122,.string t123,.slice Ao36 t124.length co36] (fun k_ => some k_ ≠ (u111004 : Value).ownBlock ∧ k_ ≠ gb110 ∧ k_ ≠ gb119) (fun k_ => some k_ = (.slice Ao36 t124.length co36 : Value).ownBlock) rfl rfl ?aP (fun k_ hk_ => ((Kd.R_mono (ok':=fun k_ => ((fun k_ => some k_ ≠ (u111004 : Value).ownBlock ∧ k_ ≠ gb110 ∧ k_ ≠ gb119)) k_ ∧ some k_ ≠ (u113000 : Value).ownBlock) (Kd.R_types (Kd.R_types (Kd.zBE (HO126.out) (Kd.S_typed HO_113000.out) (by decide)) BK110.out (by decide)) BK119.out (by decide)) (fun k_ hk => ⟨⟨hk.1.1.1.2,⟨hk.1.2,hk.2⟩⟩,hk.1.1.2⟩))).1 k_ hk_.symm) ?aF ?aO ?aB ?aS ?aL ?_
            (case aP => exact k24_mkM _ _ _ (⟨t120,t121,t122,t123,t124⟩ : S24) (Kd.R_mono (Kd.R_tight rfl (Kd.R_mono (ok':=fun k_ => ((fun k_ => some k_ ≠ (u111004 : Value).ownBlock ∧ k_ ≠ gb110 ∧ k_ ≠ gb119)) k_ ∧ some k_ ≠ (u113000 : Value).ownBlock) (Kd.R_types (Kd.R_types (Kd.zBE (HO126.out) (Kd.S_typed HO_113000.out) (by decide)) BK110.out (by decide)) BK119.out (by decide)) (fun k_ hk => ⟨⟨hk.1.1.1.2,⟨hk.1.2,hk.2⟩⟩,hk.1.1.2⟩))) (fun _ h_ => h_)))
            (case aB => exact (by repeat (first | (with_reducible first | exact HB.out | apply zAg | apply zAc | apply zAi | refine zAh ?_ GE110.out | refine zAh ?_ GE111.out | refine zAh ?_ GE112.out | refine zAh ?_ GE117.out | refine zAh ?_ GE119.out) | exact HB.out)))
            (case aF => exact (fun k_ hk => ⟨Kd.fresh' (Kd.R_lt (by (with_reducible repeat (first | apply Kd.R_alloc | apply Kd.R_drewN | apply Kd.R_drew)); exact HO_111004.out)) k_ hk,Kd.freshB (g:=gb110) (o:=.cells #[.int .i64 a0_0,.int .i64 a0_1,.int .i64 a0_2,.string a0_3,u111004] 24 (0,0)) (by (with_reducible repeat (first | apply zAb | apply zAd | apply zAa)); exact BK110.out) k_ hk,Kd.freshB (g:=gb119) (o:=.cells #[.int .i64 ((rd_T24 ((rd_T30 l1 x14_1).f0) x24_2).f0),.int .i64 ((rd_T24 ((rd_T30 l1 x14_1).f0) x24_2).f1),.int .i64 ((rd_T24 ((rd_T30 l1 x14_1).f0) x24_2).f2),.string ((rd_T24 ((rd_T30 l1 x14_1).f0) x24_2).f3),.slice A118_4 ((rd_T24 ((rd_T30 l1 x14_1).f0) x24_2).f4).length c118_4] 24 (0,0)) (by (with_reducible repeat (first | apply zAb | apply zAd | apply zAa)); exact BK119.out) k_ hk⟩))
            (case aO => exact (by (with_reducible repeat (first | apply Kd.S_alloc | apply Kd.S_drewN | apply Kd.S_drew)); exact Kd.S_mono HO_113000.out (fun k_ hk => ⟨⟨hk.1.1,⟨hk.1.2.1,hk.1.2.2⟩⟩,fun e_ => hk.2 e_⟩)))
            (case aS => exact (zAp (by repeat (first | (with_reducible first | exact HB.out | apply zAg | apply zAc | apply zAi | refine zAh ?_ GE110.out | refine zAh ?_ GE111.out | refine zAh ?_ GE112.out | refine zAh ?_ GE117.out | refine zAh ?_ GE119.out) | exact HB.out))))
            (case aL => have:=LMc25.out; omega)
            intro v128 w35 ho hb hg hat
            rw [← Ny127.out] at ho
            have n0_:=Aside0.mk (Kd.R_over' (by (with_reducible repeat (first | apply Kd.R_alloc | apply Kd.R_drewN | apply Kd.R_drew)); exact HO_111004.out) (Kd.S_typed (by (with_reducible repeat (first | apply Kd.S_alloc | apply Kd.S_drewN | apply Kd.S_drew)); exact HO_113000.out)) (by decide) hg)
            have n1_:=Aside0.mk (zAU (g:=gb110) (o:=.cells #[.int .i64 a0_0,.int .i64 a0_1,.int .i64 a0_2,.string a0_3,u111004] 24 (0,0)) (by (with_reducible repeat (first | apply zAb | apply zAd | apply zAa)); exact BK110.out) hg (Kd.S_away HO_113000.out (fun _ hk => hk.1.2.1)))
            have n2_:=Aside0.mk (zAU (g:=gb111) (o:=.cells #[.slice none 0 0,.int .i64 0] 30 (0,0)) (by (with_reducible repeat (first | apply zAb | apply zAd | apply zAa)); exact BK111.out) hg (Kd.S_ne HO_113000.out BK111.out (by decide)))
            have n3_:=Aside0.mk (zAU (g:=gb112) (o:=.cells #[u113000,.int .i64 0] 30 (0,0)) (by (with_reducible repeat (first | apply zAb | apply zAd | apply zAa)); exact BK112.out) hg (Kd.S_ne HO_113000.out BK112.out (by decide)))
            have n4_:=Aside0.mk (zAU (g:=gb117) (o:=.cells #[.slice (some ad118) ((rd_T30 l1 x14_1).f0).length c116_0,.int .i64 ((rd_T30 l1 x14_1).f1)] 30 (0,0)) (by (with_reducible repeat (first | apply zAb | apply zAd | apply zAa)); exact BK117.out) hg (Kd.S_ne HO_113000.out BK117.out (by decide)))
            have n5_:=Aside0.mk (zAU (g:=gb119) (o:=.cells #[.int .i64 ((rd_T24 ((rd_T30 l1 x14_1).f0) x24_2).f0),.int .i64 ((rd_T24 ((rd_T30 l1 x14_1).f0) x24_2).f1),.int .i64 ((rd_T24 ((rd_T30 l1 x14_1).f0) x24_2).f2),.string ((rd_T24 ((rd_T30 l1 x14_1).f0) x24_2).f3),.slice A118_4 ((rd_T24 ((rd_T30 l1 x14_1).f0) x24_2).f4).length c118_4] 24 (0,0)) (by (with_reducible repeat (first | apply zAb | apply zAd | apply zAa)); exact BK119.out) hg (Kd.S_away HO_113000.out (fun _ hk => hk.1.2.2)))
            have n6_:=Aside0.mk (hb)
            have n7_:=Aside0.mk (ho)
            clear HO_111004
            clear BK110
            clear BK111
            clear BK112
            clear BK117
            clear BK119
            clear HB
            clear HO_113000
            clear HO126
            have HO_111004:=n0_
            have BK110:=n1_
            have BK111:=n2_
            have BK112:=n3_
            have BK117:=n4_
            have BK119:=n5_
            have HB:=n6_
            have HO129:=n7_
            clear n0_ n1_ n2_ n3_ n4_ n5_ n6_ n7_
            clear ho hb hg hat
            obtain ⟨Ao37,co37,eo37⟩:=Kd.S_slice HO129.out
            (first | subst eo37 | (injection eo37 with f1_ f2_ f3_; have f4_:=f1_.symm; have f5_:=f3_.symm; clear f1_ f2_ f3_; subst f4_; subst f5_))
            refine hK.out _ _ ⟨(zAf BK112.out 0).trans rfl,(zAf BK112.out 1).trans rfl,(zAf BK119.out 0).trans rfl,(zAf BK119.out 1).trans rfl,(zAf BK119.out 2).trans rfl,(zAf BK119.out 3).trans rfl,(zAf BK119.out 4).trans rfl⟩ (fun hHeld => ?_)
            clear hK K
            refine norm_ (a':=?_) ?_ ?_
            rotate_left
            ·show Act.put _ (some 34) _ = _
             simp only [Act.put,List.setIfInBounds_toArray,List.set_cons_zero,List.set_cons_succ,i64_w,i32_w]
             rfl
            refine pure_ (i:=7) (N:=some 35) (v:=?_) (a':=?_) #[true,true,true,true,true,true,true,true,false] rfl rfl (any_of HT_.out (by kernel_rfl)) (fun _ _ _ h => h) (Or.inl ⟨by rfl,?_⟩) ?_ ?_
            rotate_left
            ·intro w'
             go_simp
             with_reducible rfl
            rotate_left
            ·simp only [Act.put,List.setIfInBounds_toArray,List.set_cons_zero,List.set_cons_succ,i64_w,i32_w]
             rfl
            refine last_ (i:=8) (N:=none) #[true,true,true,true,true,true,true,true,true] rfl rfl (one_of HT_.out (by kernel_rfl)) (by decide) (fun K hK => ?_)
            have hs38 : w35.cell? ⟨gb112,0,none⟩ = some (u113000):=(zAf BK112.out 0).trans rfl
            have hfs38:=zAe BK112.out 0
            have hns38_0:=NB110_112.out
            have hns38_1:=NB111_112.out
            have hns38_3:=NB117_112.out
            have hns38_4:=NB119_112.out
            have hms38_0:=NB112_110.out
            have hms38_1:=NB112_111.out
            have hms38_3:=NB112_117.out
            have hms38_4:=NB112_119.out
            refine skip_ (w1:=?_) (by rfl) rfl ?_ ?_
            rotate_left
            ·go_simp
             rfl
            refine hK.out _ _ ?_
            clear hK K
            refine done_ (done_of HT_.out (by kernel_rfl)) ?_
            try go_wp2
            go_roundg k2
            case measure => have:=HK1.out; have:=HK2.out; omega
            case rel => exact ⟨(wrap64 (x24_2 + 1)),(y127),(.slice Ao37 y127.length co37),(by first | rfl | (simp; done) | (simp [*]; done)),H',⟨by have:=HK1.out; have:=HK2.out; omega⟩,⟨by (with_reducible repeat (first | apply Kd.R_alloc | apply Kd.R_drewN | apply Kd.R_drew)); exact Kd.R_mono (Kd.R_far (p:=⟨gb112,0,none⟩) (Kd.R_types HO_111004.out BK112.out (by decide)) (fun _ hk => hk.2) (.slice Ao37 y127.length co37)) (fun _ hk => trivial)⟩,⟨by (with_reducible repeat (first | apply Kd.S_alloc | apply Kd.S_drewN | apply Kd.S_drew)); exact Kd.S_mono (Kd.S_far (p:=⟨gb112,0,none⟩) (Kd.S_types HO129.out BK112.out (by decide)) (fun _ hk => hk.2) (.slice Ao37 y127.length co37)) (fun _ hk => ⟨hk.1.1,hk.1.2.1⟩)⟩,⟨by (with_reducible repeat (first | apply zAb | apply zAd | apply zAa)); refine blk_far ?_ NB110_112.out _; (with_reducible repeat (first | apply zAb | apply zAd | apply zAa)); exact BK110.out⟩,⟨by (with_reducible repeat (first | apply zAb | apply zAd | apply zAa)); refine blk_far ?_ NB111_112.out _; (with_reducible repeat (first | apply zAb | apply zAd | apply zAa)); exact BK111.out⟩,⟨by (with_reducible repeat (first | apply zAb | apply zAd | apply zAa)); refine blk_put (cs:=#[u113000,.int .i64 0]) ?_ 0 _ rfl; (with_reducible repeat (first | apply zAb | apply zAd | apply zAa)); exact BK112.out⟩,⟨by (with_reducible repeat (first | apply zAb | apply zAd | apply zAa)); refine blk_far ?_ NB117_112.out _; (with_reducible repeat (first | apply zAb | apply zAd | apply zAa)); exact BK117.out⟩,⟨by repeat (first | (with_reducible first | exact HB.out | apply zAg | apply zAc | apply zAi | refine zAh ?_ GE110.out | refine zAh ?_ GE111.out | refine zAh ?_ GE112.out | refine zAh ?_ GE117.out | refine zAh ?_ GE119.out) | exact HB.out)⟩⟩
           ·rw [if_neg c25] at H
            exact absurd H (by simp)
          ·rw [if_neg c23] at H
           exact absurd H (by simp)
         ·rw [if_neg c22] at H
          exact absurd H (by simp)
        ·rw [if_neg c21] at H
         have c21b0 : decide (x24_2 < (((rd_T30 l1 x14_1).f0).length : Int)) = false:=decide_eq_false c21
         clear c21
         by_cases c39 : x111004_1.length < 17592186044416
         ·rw [if_pos c39] at H
          have LMc39:=Aside0.mk c39
          clear c39
          obtain ⟨y130,hy130⟩ : ∃ y_ : List Int,y_ = (x111004_1 ++ [wrap64 (((rd_T30 l1 x14_1).f1) + (x113000_1.length : Int))]):=⟨_,rfl⟩
          replace H : (zAS.l0 k2 l1 (l1.length : Int) (wrap64 (x14_1 + 1)) a0_0 a0_1 a0_2 a0_3 y130 x113000_2 0) = some (r1,r2):=by first | (rw [hy130]; with_reducible exact H) | (have H2_:=(Option.bind_some _ _).symm.trans H; rw [hy130]; with_reducible exact H2_) | (have H2_:=(Option.bind_some _ _).symm.trans H; with_reducible exact H2_) | with_reducible exact H | (rw [hy130]; exact H) | exact H
          have Ny130:=Aside0.mk hy130
          clear hy130
          have H':=Aside0.mk H
          clear H
          have hnb40:=NB110_111.out
          have hnc40:=NB111_110.out
          have hnb41:=NB110_112.out
          have hnc41:=NB112_110.out
          have hnb42:=NB110_117.out
          have hnc42:=NB117_110.out
          have hcz43_0 : wr.cell? ⟨gb110,0,none⟩ = some (.int .i64 a0_0):=(zAf BK110.out 0).trans rfl
          have hcz43_1 : wr.cell? ⟨gb110,1,none⟩ = some (.int .i64 a0_1):=(zAf BK110.out 1).trans rfl
          have hcz43_2 : wr.cell? ⟨gb110,2,none⟩ = some (.int .i64 a0_2):=(zAf BK110.out 2).trans rfl
          have hcz43_3 : wr.cell? ⟨gb110,3,none⟩ = some (.string a0_3):=(zAf BK110.out 3).trans rfl
          have hcz43_4 : wr.cell? ⟨gb110,4,none⟩ = some (u111004):=(zAf BK110.out 4).trans rfl
          have hfz43_0:=zAe BK110.out 0
          have hfz43_1:=zAe BK110.out 1
          have hfz43_2:=zAe BK110.out 2
          have hfz43_3:=zAe BK110.out 3
          have hfz43_4:=zAe BK110.out 4
          have hnb44:=NB117_111.out
          have hnc44:=NB111_117.out
          have hnb45:=NB117_112.out
          have hnc45:=NB112_117.out
          have hcz46_0 : wr.cell? ⟨gb117,0,none⟩ = some (.slice A116_0 ((rd_T30 l1 x14_1).f0).length c116_0):=(zAf BK117.out 0).trans rfl
          have hcz46_1 : wr.cell? ⟨gb117,1,none⟩ = some (.int .i64 ((rd_T30 l1 x14_1).f1)):=(zAf BK117.out 1).trans rfl
          have hfz46_0:=zAe BK117.out 0
          have hfz46_1:=zAe BK117.out 1
          go_wp2_with (first | ((with_reducible refine zBB (b:=.append) (xs:=#[.tmp 38,.tmp 43]) rfl ?_); at_builtin; refine Kd.zCn (Kd.int .i64) (w0:=w) w.heap.size rfl (.tmp 38) (.tmp 43) 22 3 (.int .i64 0) 8 rfl Try.underlying22 info3 rfl (by decide) (by omega) u111004 x111004_1 (wrap64 (((rd_T30 l1 x14_1).f1) + (x113000_1.length : Int))) [.int .i64 (wrap64 (((rd_T30 l1 x14_1).f1) + (x113000_1.length : Int)))] (fun _ => True) (fun _ => False) rfl rfl ?aP (fun _ hk => hk.elim) ?aF ?aO ?aB ?aS ?aL ?_; (case aP => exact rfl); (case aB => exact (by repeat (first | (with_reducible first | exact HB.out | apply zAg | apply zAc | apply zAi | refine zAh ?_ GE110.out | refine zAh ?_ GE111.out | refine zAh ?_ GE112.out | refine zAh ?_ GE117.out) | exact HB.out))); (case aF => exact (fun _ _ => trivial)); (case aO => exact (by (with_reducible repeat (first | apply Kd.R_alloc | apply Kd.R_drewN | apply Kd.R_drew)); exact HO_111004.out)); (case aS => exact (zAp (by repeat (first | (with_reducible first | exact HB.out | apply zAg | apply zAc | apply zAi | refine zAh ?_ GE110.out | refine zAh ?_ GE111.out | refine zAh ?_ GE112.out | refine zAh ?_ GE117.out) | exact HB.out)))); (case aL => have:=LMc39.out; omega); intro v131 w47 ho hb hg hat; rw [← Ny130.out] at ho; have n0_:=Aside0.mk (Kd.S_after (ok:=(fun k_ => k_ ≠ gb110)) (by (with_reducible repeat (first | apply Kd.S_alloc | apply Kd.S_drewN | apply Kd.S_drew)); exact Kd.S_mono HO_113000.out (fun _ hk => ⟨hk.2,hk.1⟩)) hg hat); have n1_:=Aside0.mk (zAU (g:=gb110) (o:=.cells #[.int .i64 a0_0,.int .i64 a0_1,.int .i64 a0_2,.string a0_3,u111004] 24 (0,0)) (by (with_reducible repeat (first | apply zAb | apply zAd | apply zAa)); exact BK110.out) hg (Kd.R_ne HO_111004.out BK110.out (by decide))); have n2_:=Aside0.mk (zAU (g:=gb111) (o:=.cells #[.slice none 0 0,.int .i64 0] 30 (0,0)) (by (with_reducible repeat (first | apply zAb | apply zAd | apply zAa)); exact BK111.out) hg (Kd.R_ne HO_111004.out BK111.out (by decide))); have n3_:=Aside0.mk (zAU (g:=gb112) (o:=.cells #[u113000,.int .i64 0] 30 (0,0)) (by (with_reducible repeat (first | apply zAb | apply zAd | apply zAa)); exact BK112.out) hg (Kd.R_ne HO_111004.out BK112.out (by decide))); have n4_:=Aside0.mk (zAU (g:=gb117) (o:=.cells #[.slice A116_0 ((rd_T30 l1 x14_1).f0).length c116_0,.int .i64 ((rd_T30 l1 x14_1).f1)] 30 (0,0)) (by (with_reducible repeat (first | apply zAb | apply zAd | apply zAa)); exact BK117.out) hg (Kd.R_ne HO_111004.out BK117.out (by decide))); have n5_:=Aside0.mk (hb); have n6_:=Aside0.mk (ho); clear HO_113000; clear BK110; clear BK111; clear BK112; clear BK117; clear HB; clear HO_111004; have HO_113000:=n0_; have BK110:=n1_; have BK111:=n2_; have BK112:=n3_; have BK117:=n4_; have HB:=n5_; have HO132:=n6_; clear n0_ n1_ n2_ n3_ n4_ n5_ n6_; clear ho hb hg hat; obtain ⟨Ao48,co48,eo48⟩:=Kd.R_slice HO132.out; subst eo48; have hcz49_0 : w47.cell? ⟨gb110,0,none⟩ = some (.int .i64 a0_0):=(zAf BK110.out 0).trans rfl; have hcz49_1 : w47.cell? ⟨gb110,1,none⟩ = some (.int .i64 a0_1):=(zAf BK110.out 1).trans rfl; have hcz49_2 : w47.cell? ⟨gb110,2,none⟩ = some (.int .i64 a0_2):=(zAf BK110.out 2).trans rfl; have hcz49_3 : w47.cell? ⟨gb110,3,none⟩ = some (.string a0_3):=(zAf BK110.out 3).trans rfl; have hcz49_4 : w47.cell? ⟨gb110,4,none⟩ = some (u111004):=(zAf BK110.out 4).trans rfl; have hfz49_0:=zAe BK110.out 0; have hfz49_1:=zAe BK110.out 1; have hfz49_2:=zAe BK110.out 2; have hfz49_3:=zAe BK110.out 3; have hfz49_4:=zAe BK110.out 4))
          go_roundg k2
          case measure => have:=HK1.out; have:=HK2.out; omega
          case rel => exact ⟨(wrap64 (x14_1 + 1)),(y130),(x113000_2),(.slice Ao48 y130.length co48),(u113000),(by first | rfl | (simp; done) | (simp [*]; done)),H',⟨by have:=HK1.out; have:=HK2.out; omega⟩,⟨by (with_reducible repeat (first | apply Kd.R_alloc | apply Kd.R_drewN | apply Kd.R_drew)); exact Kd.R_mono (Kd.R_far (p:=⟨gb110,4,none⟩) (Kd.R_types HO132.out BK110.out (by decide)) (fun _ hk => hk.2) (.slice Ao48 y130.length co48)) (fun _ hk => trivial)⟩,⟨by (with_reducible repeat (first | apply Kd.S_alloc | apply Kd.S_drewN | apply Kd.S_drew)); exact Kd.S_mono (Kd.S_far (p:=⟨gb110,4,none⟩) (Kd.S_mono HO_113000.out (fun k_ hk => (⟨hk,hk.1⟩ : _ ∧ k_ ≠ gb110))) (fun _ hk => hk.2) (.slice Ao48 y130.length co48)) (fun _ hk => ⟨hk.1.2,hk.1.1⟩)⟩,⟨by (with_reducible repeat (first | apply zAb | apply zAd | apply zAa)); refine blk_put (cs:=#[.int .i64 a0_0,.int .i64 a0_1,.int .i64 a0_2,.string a0_3,u111004]) ?_ 4 _ rfl; (with_reducible repeat (first | apply zAb | apply zAd | apply zAa)); exact BK110.out⟩,⟨by (with_reducible repeat (first | apply zAb | apply zAd | apply zAa)); refine blk_far ?_ NB111_110.out _; (with_reducible repeat (first | apply zAb | apply zAd | apply zAa)); exact BK111.out⟩,⟨by (with_reducible repeat (first | apply zAb | apply zAd | apply zAa)); refine blk_far ?_ NB112_110.out _; (with_reducible repeat (first | apply zAb | apply zAd | apply zAa)); exact BK112.out⟩,⟨by repeat (first | (with_reducible first | exact HB.out | apply zAg | apply zAc | apply zAi | refine zAh ?_ GE110.out | refine zAh ?_ GE111.out | refine zAh ?_ GE112.out | refine zAh ?_ GE117.out) | exact HB.out)⟩⟩
         ·rw [if_neg c39] at H
          exact absurd H (by simp)
     ·rw [if_neg c11] at H
      exact absurd H (by simp)
    ·rw [if_neg c10] at H
     exact absurd H (by simp)
   ·rw [if_neg c9] at H
    have c9b0 : decide (x14_1 < (l1.length : Int)) = false:=decide_eq_false c9
    clear c9
    by_cases c50 : x113000_1.length < 2199023255552
    ·rw [if_pos c50] at H
     have LMc50:=Aside0.mk c50
     clear c50
     obtain ⟨y113,hy113⟩ : ∃ y_ : List (S24),y_ = (x113000_1 ++ [(⟨a0_0,a0_1,a0_2,a0_3,x111004_1⟩ : S24)]):=⟨_,rfl⟩
     replace H : (some (y113,(x113000_1.length : Int))) = some (r1,r2):=by first | (rw [hy113]; with_reducible exact H) | (have H2_:=(Option.bind_some _ _).symm.trans H; rw [hy113]; with_reducible exact H2_) | (have H2_:=(Option.bind_some _ _).symm.trans H; with_reducible exact H2_) | with_reducible exact H | (rw [hy113]; exact H) | exact H
     have Ny113:=Aside0.mk hy113
     clear hy113
     simp only [Option.some.injEq,Prod.mk.injEq] at H
     obtain ⟨rfl,rfl⟩:=H
     have hnb51:=NB112_110.out
     have hnc51:=NB110_112.out
     have hnb52:=NB112_111.out
     have hnc52:=NB111_112.out
     have hcz53_0 : wr.cell? ⟨gb112,0,none⟩ = some (u113000):=(zAf BK112.out 0).trans rfl
     have hcz53_1 : wr.cell? ⟨gb112,1,none⟩ = some (.int .i64 0):=(zAf BK112.out 1).trans rfl
     have hfz53_0:=zAe BK112.out 0
     have hfz53_1:=zAe BK112.out 1
     obtain ⟨Ao54,co54,eo54⟩:=Kd.S_slice HO_113000.out
     subst eo54
     go_wp2_with (first | ((with_reducible refine zBt (t:=3) (p:=50) rfl ?_); refine zBo (t:=3) (p:=50) (v:=?vo_w55) (w1:=(wr.setCell ⟨gb112,1,none⟩ (.int .i64 (x113000_1.length : Int)))) ?hg ?ho ?hn ?hr ?_; (case ho => rfl); (case hg => rfl); (case hn => rfl); (case hr => first | (go_simp; done) | (go_simp; rfl)); intro w55 hw; have n0_ : Aside0 (Kd.R (Kd.int .i64) 3 w55 w.heap.size (fun _ => True) u111004 x111004_1):=⟨(by rw [hw]; exact (by (with_reducible repeat (first | apply Kd.R_alloc | apply Kd.R_drewN | apply Kd.R_drew)); exact Kd.R_mono (Kd.R_far (p:=⟨gb112,1,none⟩) (Kd.R_types HO_111004.out BK112.out (by decide)) (fun _ hk => hk.2) (.int .i64 (x113000_1.length : Int))) (fun _ hk => trivial)))⟩; have n1_ : Aside0 (Kd.S k24 24 w55 w.heap.size (fun k_ => some k_ ≠ (u111004 : Value).ownBlock ∧ k_ ≠ gb110) (.slice Ao54 x113000_1.length co54) x113000_1):=⟨(by rw [hw]; exact (by (with_reducible repeat (first | apply Kd.S_alloc | apply Kd.S_drewN | apply Kd.S_drew)); exact Kd.S_mono (Kd.S_far (p:=⟨gb112,1,none⟩) (Kd.S_types HO_113000.out BK112.out (by decide)) (fun _ hk => hk.2) (.int .i64 (x113000_1.length : Int))) (fun _ hk => ⟨hk.1.1,hk.1.2⟩)))⟩; have n2_ : Aside0 (w55.heap[gb110]? = some (.cells #[.int .i64 a0_0,.int .i64 a0_1,.int .i64 a0_2,.string a0_3,u111004] 24 (0,0))):=⟨(by rw [hw]; exact (by (with_reducible repeat (first | apply zAb | apply zAd | apply zAa)); refine blk_far ?_ NB110_112.out _; (with_reducible repeat (first | apply zAb | apply zAd | apply zAa)); exact BK110.out))⟩; have n3_ : Aside0 (w55.heap[gb111]? = some (.cells #[.slice none 0 0,.int .i64 0] 30 (0,0))):=⟨(by rw [hw]; exact (by (with_reducible repeat (first | apply zAb | apply zAd | apply zAa)); refine blk_far ?_ NB111_112.out _; (with_reducible repeat (first | apply zAb | apply zAd | apply zAa)); exact BK111.out))⟩; have n4_ : Aside0 (w55.heap[gb112]? = some (.cells #[.slice Ao54 x113000_1.length co54,.int .i64 (x113000_1.length : Int)] 30 (0,0))):=⟨(by rw [hw]; exact (by (with_reducible repeat (first | apply zAb | apply zAd | apply zAa)); refine blk_put (cs:=#[.slice Ao54 x113000_1.length co54,.int .i64 0]) ?_ 1 _ rfl; (with_reducible repeat (first | apply zAb | apply zAd | apply zAa)); exact BK112.out))⟩; have n5_ : Aside0 (Below w.heap.size w w55):=⟨(by rw [hw]; exact (by repeat (first | (with_reducible first | exact HB.out | apply zAg | apply zAc | apply zAi | refine zAh ?_ GE110.out | refine zAh ?_ GE111.out | refine zAh ?_ GE112.out) | exact HB.out)))⟩; clear hw; clear HO_111004; clear HO_113000; clear BK110; clear BK111; clear BK112; clear HB; have HO_111004:=n0_; have HO_113000:=n1_; have BK110:=n2_; have BK111:=n3_; have BK112:=n4_; have HB:=n5_; clear n0_ n1_ n2_ n3_ n4_ n5_; have hcz56_0 : w55.cell? ⟨gb112,0,none⟩ = some (.slice Ao54 x113000_1.length co54):=(zAf BK112.out 0).trans rfl; have hcz56_1 : w55.cell? ⟨gb112,1,none⟩ = some (.int .i64 (x113000_1.length : Int)):=(zAf BK112.out 1).trans rfl; have hfz56_0:=zAe BK112.out 0; have hfz56_1:=zAe BK112.out 1; have hnb57:=NB110_111.out; have hnc57:=NB111_110.out; have hcz58_0 : w55.cell? ⟨gb110,0,none⟩ = some (.int .i64 a0_0):=(zAf BK110.out 0).trans rfl; have hcz58_1 : w55.cell? ⟨gb110,1,none⟩ = some (.int .i64 a0_1):=(zAf BK110.out 1).trans rfl; have hcz58_2 : w55.cell? ⟨gb110,2,none⟩ = some (.int .i64 a0_2):=(zAf BK110.out 2).trans rfl; have hcz58_3 : w55.cell? ⟨gb110,3,none⟩ = some (.string a0_3):=(zAf BK110.out 3).trans rfl; have hcz58_4 : w55.cell? ⟨gb110,4,none⟩ = some (u111004):=(zAf BK110.out 4).trans rfl; have hfz58_0:=zAe BK110.out 0; have hfz58_1:=zAe BK110.out 1; have hfz58_2:=zAe BK110.out 2; have hfz58_3:=zAe BK110.out 3; have hfz58_4:=zAe BK110.out 4; obtain ⟨Ao60,co60,eo60⟩:=Kd.R_slice HO_111004.out; subst eo60) | ((with_reducible refine zBB (b:=.append) (xs:=#[.tmp 52,.tmp 54]) rfl ?_); at_builtin; refine Kd.S_append k24 (w0:=w) w.heap.size rfl (.tmp 52) (.tmp 54) 28 24 (.agg #[(.int .i64 0),(.int .i64 0),(.int .i64 0),(.string ⟨#[]⟩),(.slice none 0 0)]) 64 rfl Try.underlying28 info24 rfl (by decide) (by omega) (.slice Ao54 x113000_1.length co54) x113000_1 (⟨a0_0,a0_1,a0_2,a0_3,x111004_1⟩ : S24) [.int .i64 a0_0,.int .i64 a0_1,.int .i64 a0_2,.string a0_3,.slice Ao60 x111004_1.length co60] (fun k_ => k_ ≠ gb110) (fun k_ => some k_ = (.slice Ao60 x111004_1.length co60 : Value).ownBlock) rfl rfl ?aP (fun k_ hk_ => ((Kd.R_mono (ok':=fun k_ => ((fun k_ => k_ ≠ gb110)) k_ ∧ some k_ ≠ (.slice Ao54 x113000_1.length co54 : Value).ownBlock) (Kd.R_types (Kd.zBE (HO_111004.out) (Kd.S_typed HO_113000.out) (by decide)) BK110.out (by decide)) (fun k_ hk => ⟨hk.2,hk.1.2⟩))).1 k_ hk_.symm) ?aF ?aO ?aB ?aS ?aL ?_; (case aP => exact k24_mkM _ _ _ (⟨a0_0,a0_1,a0_2,a0_3,x111004_1⟩ : S24) (Kd.R_mono (Kd.R_tight rfl (Kd.R_mono (ok':=fun k_ => ((fun k_ => k_ ≠ gb110)) k_ ∧ some k_ ≠ (.slice Ao54 x113000_1.length co54 : Value).ownBlock) (Kd.R_types (Kd.zBE (HO_111004.out) (Kd.S_typed HO_113000.out) (by decide)) BK110.out (by decide)) (fun k_ hk => ⟨hk.2,hk.1.2⟩))) (fun _ h_ => h_))); (case aB => exact (by repeat (first | (with_reducible first | exact HB.out | apply zAg | apply zAc | apply zAi | refine zAh ?_ GE110.out | refine zAh ?_ GE111.out | refine zAh ?_ GE112.out) | exact HB.out))); (case aF => exact (fun k_ hk => Kd.freshB (g:=gb110) (o:=.cells #[.int .i64 a0_0,.int .i64 a0_1,.int .i64 a0_2,.string a0_3,.slice Ao60 x111004_1.length co60] 24 (0,0)) (by (with_reducible repeat (first | apply zAb | apply zAd | apply zAa)); exact BK110.out) k_ hk)); (case aO => exact (by (with_reducible repeat (first | apply Kd.S_alloc | apply Kd.S_drewN | apply Kd.S_drew)); exact Kd.S_mono HO_113000.out (fun k_ hk => ⟨hk.2,fun e_ => hk.1 e_⟩))); (case aS => exact (zAp (by repeat (first | (with_reducible first | exact HB.out | apply zAg | apply zAc | apply zAi | refine zAh ?_ GE110.out | refine zAh ?_ GE111.out | refine zAh ?_ GE112.out) | exact HB.out)))); (case aL => have:=LMc50.out; omega); intro v114 w59 ho hb hg hat; rw [← Ny113.out] at ho; have n0_:=Aside0.mk (zAU (g:=gb110) (o:=.cells #[.int .i64 a0_0,.int .i64 a0_1,.int .i64 a0_2,.string a0_3,.slice Ao60 x111004_1.length co60] 24 (0,0)) (by (with_reducible repeat (first | apply zAb | apply zAd | apply zAa)); exact BK110.out) hg (Kd.S_away HO_113000.out (fun _ hk => hk.2))); have n1_:=Aside0.mk (zAU (g:=gb111) (o:=.cells #[.slice none 0 0,.int .i64 0] 30 (0,0)) (by (with_reducible repeat (first | apply zAb | apply zAd | apply zAa)); exact BK111.out) hg (Kd.S_ne HO_113000.out BK111.out (by decide))); have n2_:=Aside0.mk (zAU (g:=gb112) (o:=.cells #[.slice Ao54 x113000_1.length co54,.int .i64 (x113000_1.length : Int)] 30 (0,0)) (by (with_reducible repeat (first | apply zAb | apply zAd | apply zAa)); exact BK112.out) hg (Kd.S_ne HO_113000.out BK112.out (by decide))); have n3_:=Aside0.mk (hb); have n4_:=Aside0.mk (ho); clear BK110; clear BK111; clear BK112; clear HB; clear HO_113000; clear HO_111004; have BK110:=n0_; have BK111:=n1_; have BK112:=n2_; have HB:=n3_; have HO115:=n4_; clear n0_ n1_ n2_ n3_ n4_; clear ho hb hg hat; obtain ⟨Ao61,co61,eo61⟩:=Kd.S_slice HO115.out; subst eo61; have hcz62_0 : w59.cell? ⟨gb112,0,none⟩ = some (.slice Ao54 x113000_1.length co54):=(zAf BK112.out 0).trans rfl; have hcz62_1 : w59.cell? ⟨gb112,1,none⟩ = some (.int .i64 (x113000_1.length : Int)):=(zAf BK112.out 1).trans rfl; have hfz62_0:=zAe BK112.out 0; have hfz62_1:=zAe BK112.out 1; have hcz63_0 : w59.cell? ⟨gb111,0,none⟩ = some (.slice none 0 0):=(zAf BK111.out 0).trans rfl; have hcz63_1 : w59.cell? ⟨gb111,1,none⟩ = some (.int .i64 0):=(zAf BK111.out 1).trans rfl; have hfz63_0:=zAe BK111.out 0; have hfz63_1:=zAe BK111.out 1))
     refine bodyPost_ret (results_cell_row rfl _ _ gb111 30 #[.slice Ao61 y113.length co61,.int .i64 (x113000_1.length : Int)] (0,0) _ rfl (by (with_reducible repeat (first | apply zAb | apply zAd | apply zAa)); refine blk_put (cs:=#[.slice Ao61 y113.length co61,.int .i64 0]) ?_ 1 _ rfl; (with_reducible repeat (first | apply zAb | apply zAd | apply zAa)); refine blk_put (cs:=#[.slice none 0 0,.int .i64 0]) ?_ 0 _ rfl; (with_reducible repeat (first | apply zAb | apply zAd | apply zAa)); refine blk_far ?_ NB111_112.out _; (with_reducible repeat (first | apply zAb | apply zAd | apply zAa)); exact BK111.out) Try.underlying30 rfl (by kernel_rfl)) rfl ?_
     exact ⟨_,by first | rfl | (simp [zAo,zAn] <;> rfl) | (simp [*,zAo,zAn] <;> rfl),by (with_reducible repeat (first | apply Kd.S_alloc | apply Kd.S_drewN | apply Kd.S_drew)); exact Kd.S_mono (Kd.S_far (p:=⟨gb111,1,none⟩) (Kd.S_far (p:=⟨gb111,0,none⟩) (Kd.S_far (p:=⟨gb112,0,none⟩) (Kd.S_types (Kd.S_types HO115.out BK112.out (by decide)) BK111.out (by decide)) (fun _ hk => hk.1.2) (.slice Ao61 y113.length co61)) (fun _ hk => hk.2) (.slice Ao61 y113.length co61)) (fun _ hk => hk.2) (.int .i64 (x113000_1.length : Int))) (fun _ hk => trivial),by repeat (first | (with_reducible first | exact HB.out | apply zAg | apply zAc | apply zAi | refine zAh ?_ GE110.out | refine zAh ?_ GE111.out | refine zAh ?_ GE112.out) | exact HB.out)⟩
    ·rw [if_neg c50] at H
     exact absurd H (by simp)
end Go.Proofs.Ytpggidmpkhmijaa.P
