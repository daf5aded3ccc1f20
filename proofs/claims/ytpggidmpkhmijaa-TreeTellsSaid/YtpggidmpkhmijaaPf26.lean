import Derived.Test.YtpggidmpkhmijaaRose
set_option linter.unusedVariables false
set_option linter.unusedSimpArgs false
namespace Go.Proofs.Ytpggidmpkhmijaa.P
open Go.RowKit Go.Proofs.YtpggidmpkhmijaaW.PrintWords Go.Proofs.YtpggidmpkhmijaaW.PrintLast Go.Proofs.YtpggidmpkhmijaaW.PrintMore
attribute [local go_sem] zBa zAY max_two min_two zAR zAT zAZ zAX
def zBc.l0 : Nat → Int → List Int → List Int → Int → Int → Int → Int → Int → ByteArray → List Int → Option (Int × Int × Int × ByteArray × List Int)
 | 0,_,_,_,_,_,_,_,_,_,_ => none
 | k + 1,x1,x5,x13,x14,x15,x102000,x102001,x102002,x102003,x102004 => if x15 < x14 then (if 0 ≤ x15 then (if x15 < (x13.length : Int) then (if x5.length < 17592186044416 then (zBc.l0 k x1 (x5 ++ [wrap64 ((rd x13 x15) + x1)]) x13 x14 (wrap64 (x15 + 1)) x102000 x102001 x102002 x102003 x102004) else (none)) else (none)) else (none)) else (some (x102000,x102001,x102002,x102003,x5))
def zBc.f (k : Nat) (a0_0 : Int) (a0_1 : Int) (a0_2 : Int) (a0_3 : ByteArray) (l0_4 : List Int) (a1 : Int) : Option (Int × Int × Int × ByteArray × List Int):=if 0 ≤ (l0_4.length : Int) then (if ((l0_4.length : Int) : Int).toNat ≤ 35184372088832 then (zBc.l0 k a1 (([] : List Int)) l0_4 (l0_4.length : Int) 0 a0_0 a0_1 a0_2 a0_3 l0_4) else (none)) else (none)
set_option maxHeartbeats 8000000 in
set_option maxRecDepth 100000 in
theorem zBc.calls (k : Nat) (a0_0 : Int) (a0_1 : Int) (a0_2 : Int) (a0_3 : ByteArray) (A0_4 : Option Addr) (c0_4 : Nat) (l0_4 : List Int) (a1 : Int) (r1 : Int) (r2 : Int) (r3 : Int) (r4 : ByteArray) (r5 : List Int) (w : World) (hr0_4 : Kd.C (Kd.int .i64) w A0_4 l0_4.length l0_4) (hc0_4 : l0_4.length ≤ c0_4) (h : zBc.f k a0_0 a0_1 a0_2 a0_3 l0_4 a1 = some (r1,r2,r3,r4,r5)) :
  Calls Try.prog 26 #[.agg #[.int .i64 a0_0,.int .i64 a0_1,.int .i64 a0_2,.string a0_3,.slice A0_4 l0_4.length c0_4],.int .i64 a1] w fun e w' => ∃ v4_ : Value,e = .returned (.agg #[.int .i64 r1,.int .i64 r2,.int .i64 r3,.string r4,v4_]) ∧ Kd.R (Kd.int .i64) 3 w' w.heap.size (fun _ => True) v4_ r5 ∧ Below w.heap.size w w':=by
 have hu24:=Try.underlying24
 have HR0_4:=Aside0.mk hr0_4
 have HC0_4:=Aside0.mk hc0_4
 clear hr0_4 hc0_4
 have HB:=Aside0.mk (Below.refl w.heap.size w)
 have H : (if 0 ≤ (l0_4.length : Int) then (if ((l0_4.length : Int) : Int).toNat ≤ 35184372088832 then (zBc.l0 k a1 (([] : List Int)) l0_4 (l0_4.length : Int) 0 a0_0 a0_1 a0_2 a0_3 l0_4) else (none)) else (none)) = some (r1,r2,r3,r4,r5):=h
 clear h
 by_cases c3 : 0 ≤ (l0_4.length : Int)
 ·rw [if_pos c3] at H
  have c3b0:=eq_true c3
  have c3b1 : decide (0 ≤ (l0_4.length : Int)) = true:=decide_eq_true c3
  clear c3
  by_cases c4 : ((l0_4.length : Int) : Int).toNat ≤ 35184372088832
  ·rw [if_pos c4] at H
   have c4b0:=eq_true c4
   have c4b1 : decide (((l0_4.length : Int) : Int).toNat ≤ 35184372088832) = true:=decide_eq_true c4
   clear c4
   obtain ⟨y103,hy103⟩ : ∃ y_ : List Int,y_ = (([] : List Int)):=⟨_,rfl⟩
   replace H : (zBc.l0 k a1 y103 l0_4 (l0_4.length : Int) 0 a0_0 a0_1 a0_2 a0_3 l0_4) = some (r1,r2,r3,r4,r5):=by first | (rw [hy103]; with_reducible exact H) | (have H2_:=(Option.bind_some _ _).symm.trans H; rw [hy103]; with_reducible exact H2_) | (have H2_:=(Option.bind_some _ _).symm.trans H; with_reducible exact H2_) | with_reducible exact H | (rw [hy103]; exact H) | exact H
   have Ny103:=Aside0.mk hy103
   clear hy103
   have H':=Aside0.mk H
   clear H
   go_enter Try.func26,Try.ntmps26
   go_wp2_with (first | ((with_reducible refine zAM (N:=2) rfl ?_); refine zAL ?hg (N:=2) ?hd (cs:=#[.int .i64 a0_0,.int .i64 a0_1,.int .i64 a0_2,.string a0_3,.slice A0_4 l0_4.length c0_4]) (t:=24) ?hr ?_; (case hd => rfl); (case hg => rfl); (case hr => first | (go_simp; done) | (go_simp; rfl)); intro gb101 hg w5 hbox hb; have n0_:=Aside0.mk (zAm (by repeat (first | (with_reducible first | exact HB.out | apply zAg | apply zAc | apply zAi) | exact HB.out)) hb); have n1_:=Aside0.mk (hbox); have n2_:=Aside0.mk ((by rw [hg]; exact (zAp (by repeat (first | (with_reducible first | exact HB.out | apply zAg | apply zAc | apply zAi) | exact HB.out))) : w.heap.size ≤ gb101)); have n3_:=Aside0.mk ((by rw [hg]; exact (zAp (by repeat (first | (with_reducible first | exact HB.out | apply zAg | apply zAc | apply zAi) | exact HB.out))) : w.heap.size ≤ gb101)); clear HB; have HB:=n0_; have BK101:=n1_; have GW101:=n2_; have GE101:=n3_; clear n0_ n1_ n2_ n3_; clear hb hbox hg) | ((with_reducible refine zAM (N:=4) rfl ?_); refine zAL ?hg (N:=4) ?hd (cs:=#[.int .i64 0,.int .i64 0,.int .i64 0,.string (⟨#[]⟩ : ByteArray),.slice none 0 0]) (t:=24) ?hr ?_; (case hd => rfl); (case hg => rfl); (case hr => first | (go_simp; done) | (go_simp; rfl)); intro gb102 hg w6 hbox hb; have n0_:=Aside0.mk (zAs (g:=gb101) (o:=.cells #[.int .i64 a0_0,.int .i64 a0_1,.int .i64 a0_2,.string a0_3,.slice A0_4 l0_4.length c0_4] 24 (0,0)) (by (with_reducible repeat (first | apply zAb | apply zAd | apply zAa)); exact BK101.out) hb); have n1_:=Aside0.mk (zAm (by repeat (first | (with_reducible first | exact HB.out | apply zAg | apply zAc | apply zAi | refine zAh ?_ GE101.out) | exact HB.out)) hb); have n2_:=Aside0.mk (hbox); have n3_:=Aside0.mk ((by rw [hg]; exact (zAp (by repeat (first | (with_reducible first | exact HB.out | apply zAg | apply zAc | apply zAi | refine zAh ?_ GE101.out) | exact HB.out))) : w.heap.size ≤ gb102)); have n4_:=Aside0.mk ((by rw [hg]; exact (zAp (by repeat (first | (with_reducible first | exact HB.out | apply zAg | apply zAc | apply zAi | refine zAh ?_ GE101.out) | exact HB.out))) : w.heap.size ≤ gb102)); have n5_:=Aside0.mk ((by rw [hg]; exact Nat.ne_of_lt (blk_lt (g:=gb101) (o:=.cells #[.int .i64 a0_0,.int .i64 a0_1,.int .i64 a0_2,.string a0_3,.slice A0_4 l0_4.length c0_4] 24 (0,0)) (by (with_reducible repeat (first | apply zAb | apply zAd | apply zAa)); exact BK101.out)) : gb101 ≠ gb102)); have n6_:=Aside0.mk ((by rw [hg]; exact Nat.ne_of_gt (blk_lt (g:=gb101) (o:=.cells #[.int .i64 a0_0,.int .i64 a0_1,.int .i64 a0_2,.string a0_3,.slice A0_4 l0_4.length c0_4] 24 (0,0)) (by (with_reducible repeat (first | apply zAb | apply zAd | apply zAa)); exact BK101.out)) : gb102 ≠ gb101)); clear BK101; clear HB; have BK101:=n0_; have HB:=n1_; have BK102:=n2_; have GW102:=n3_; have GE102:=n4_; have NB101_102:=n5_; have NB102_101:=n6_; clear n0_ n1_ n2_ n3_ n4_ n5_ n6_; clear hb hbox hg; have hnb7:=NB101_102.out; have hnc7:=NB102_101.out; have hcz8_0 : w6.cell? ⟨gb101,0,none⟩ = some (.int .i64 a0_0):=(zAf BK101.out 0).trans rfl; have hcz8_1 : w6.cell? ⟨gb101,1,none⟩ = some (.int .i64 a0_1):=(zAf BK101.out 1).trans rfl; have hcz8_2 : w6.cell? ⟨gb101,2,none⟩ = some (.int .i64 a0_2):=(zAf BK101.out 2).trans rfl; have hcz8_3 : w6.cell? ⟨gb101,3,none⟩ = some (.string a0_3):=(zAf BK101.out 3).trans rfl; have hcz8_4 : w6.cell? ⟨gb101,4,none⟩ = some (.slice A0_4 l0_4.length c0_4):=(zAf BK101.out 4).trans rfl; have hfz8_0:=zAe BK101.out 0; have hfz8_1:=zAe BK101.out 1; have hfz8_2:=zAe BK101.out 2; have hfz8_3:=zAe BK101.out 3; have hfz8_4:=zAe BK101.out 4) | ((with_reducible refine zAM (N:=11) rfl ?_); refine Kd.R_make0 (Kd.int .i64) _ 3 rfl (N:=11) rfl 22 _ _ rfl (l0_4.length : Int) rfl rfl Try.underlying22 (.int .i64 0) 8 info3 rfl (by decide) (by omega) (ok:=fun _ => True) trivial (of_decide_eq_true (by first | (with_reducible assumption) | assumption)) (Nat.le_trans (Nat.mul_le_mul_right _ (of_decide_eq_true (by first | (with_reducible assumption) | assumption) : (l0_4.length : Int).toNat ≤ 35184372088832)) (by omega)) (Below.refl _ _) (Nat.le_refl _) ?_; intro v104 w9 ho10 hb hg_ hnew_; clear hg_ hnew_; (first | rw [← Ny103.out] at ho10 | (simp only [Int.reduceToNat] at ho10; rw [← Ny103.out] at ho10)); have n0_:=Aside0.mk (Kd.R_lower ho10 (zAp (by repeat (first | (with_reducible first | exact HB.out | apply zAg | apply zAc | apply zAi | refine zAh ?_ GE101.out | refine zAh ?_ GE102.out) | exact HB.out)))); have n1_:=Aside0.mk (zAs (g:=gb101) (o:=.cells #[.int .i64 a0_0,.int .i64 a0_1,.int .i64 a0_2,.string a0_3,.slice A0_4 l0_4.length c0_4] 24 (0,0)) (by (with_reducible repeat (first | apply zAb | apply zAd | apply zAa)); exact BK101.out) hb); have n2_:=Aside0.mk (zAs (g:=gb102) (o:=.cells #[.int .i64 0,.int .i64 0,.int .i64 0,.string (⟨#[]⟩ : ByteArray),.slice none 0 0] 24 (0,0)) (by (with_reducible repeat (first | apply zAb | apply zAd | apply zAa)); exact BK102.out) hb); have n3_:=Aside0.mk (zAm (by repeat (first | (with_reducible first | exact HB.out | apply zAg | apply zAc | apply zAi | refine zAh ?_ GE101.out | refine zAh ?_ GE102.out) | exact HB.out)) hb); clear BK101; clear BK102; clear HB; have HO105:=n0_; have BK101:=n1_; have BK102:=n2_; have HB:=n3_; clear n0_ n1_ n2_ n3_; clear hb ho10; have hcz11_0 : w9.cell? ⟨gb101,0,none⟩ = some (.int .i64 a0_0):=(zAf BK101.out 0).trans rfl; have hcz11_1 : w9.cell? ⟨gb101,1,none⟩ = some (.int .i64 a0_1):=(zAf BK101.out 1).trans rfl; have hcz11_2 : w9.cell? ⟨gb101,2,none⟩ = some (.int .i64 a0_2):=(zAf BK101.out 2).trans rfl; have hcz11_3 : w9.cell? ⟨gb101,3,none⟩ = some (.string a0_3):=(zAf BK101.out 3).trans rfl; have hcz11_4 : w9.cell? ⟨gb101,4,none⟩ = some (.slice A0_4 l0_4.length c0_4):=(zAf BK101.out 4).trans rfl; have hfz11_0:=zAe BK101.out 0; have hfz11_1:=zAe BK101.out 1; have hfz11_2:=zAe BK101.out 2; have hfz11_3:=zAe BK101.out 3; have hfz11_4:=zAe BK101.out 4))
   go_loopg [5,15] k (fun kq v5 v15 w' => ∃ (x5_1 : List Int) (x15_1 : Int),v15 = .int .i64 x15_1 ∧ Aside0 (zBc.l0 kq a1 x5_1 l0_4 (l0_4.length : Int) x15_1 a0_0 a0_1 a0_2 a0_3 l0_4 = some (r1,r2,r3,r4,r5)) ∧ Aside0 (kq ≤ k) ∧ Aside0 (Kd.R (Kd.int .i64) 3 w' w.heap.size (fun _ => True) v5 x5_1) ∧ Aside0 (w'.heap[gb101]? = some (.cells #[.int .i64 a0_0,.int .i64 a0_1,.int .i64 a0_2,.string a0_3,(.slice A0_4 l0_4.length c0_4)] 24 (0,0))) ∧ Aside0 (w'.heap[gb102]? = some (.cells #[.int .i64 0,.int .i64 0,.int .i64 0,.string (⟨#[]⟩ : ByteArray),(.slice none 0 0)] 24 (0,0))) ∧ Aside0 (Below w.heap.size w w'))
   case atStart => exact ⟨(y103),(0),(by first | rfl | (simp; done) | (simp [*]; done)),H',⟨Nat.le_refl _⟩,⟨by (with_reducible repeat (first | apply Kd.R_alloc | apply Kd.R_drewN | apply Kd.R_drew)); exact HO105.out⟩,⟨by (with_reducible repeat (first | apply zAb | apply zAd | apply zAa)); exact BK101.out⟩,⟨by (with_reducible repeat (first | apply zAb | apply zAd | apply zAa)); exact BK102.out⟩,⟨by repeat (first | (with_reducible first | exact HB.out | apply zAg | apply zAc | apply zAi | refine zAh ?_ GE101.out | refine zAh ?_ GE102.out) | exact HB.out)⟩⟩
   case round =>
    clear H'
    try clear c2
    try clear p2
    try clear c3
    try clear c3b0
    try clear c3b1
    try clear c4
    try clear c4b0
    try clear c4b1
    try clear c7
    try clear hcz11_0
    try clear hcz11_1
    try clear hcz11_2
    try clear hcz11_3
    try clear hcz11_4
    try clear hcz8_0
    try clear hcz8_1
    try clear hcz8_2
    try clear hcz8_3
    try clear hcz8_4
    try clear hfz11_0
    try clear hfz11_1
    try clear hfz11_2
    try clear hfz11_3
    try clear hfz11_4
    try clear hfz8_0
    try clear hfz8_1
    try clear hfz8_2
    try clear hfz8_3
    try clear hfz8_4
    obtain ⟨x5_1,x15_1,rfl,HA,HK1,HO_5,BK101,BK102,HB⟩:=hrel
    cases gk with
    | zero => exact absurd HA.out (by simp [zBc.l0])
    | succ k1 =>
     have H:=HA.out
     clear HA
     simp only [zBc.l0] at H
     by_cases c12 : x15_1 < (l0_4.length : Int)
     ·rw [if_pos c12] at H
      have c12b0 : decide (x15_1 < (l0_4.length : Int)) = true:=decide_eq_true c12
      clear c12
      by_cases c13 : 0 ≤ x15_1
      ·rw [if_pos c13] at H
       have c13b0 : decide (0 ≤ x15_1) = true:=decide_eq_true c13
       clear c13
       by_cases c14 : x15_1 < (l0_4.length : Int)
       ·rw [if_pos c14] at H
        have c14b0 : decide (x15_1 < (l0_4.length : Int)) = true:=decide_eq_true c14
        clear c14
        by_cases c15 : x5_1.length < 17592186044416
        ·rw [if_pos c15] at H
         have LMc15:=Aside0.mk c15
         clear c15
         obtain ⟨y107,hy107⟩ : ∃ y_ : List Int,y_ = (x5_1 ++ [wrap64 ((rd l0_4 x15_1) + a1)]):=⟨_,rfl⟩
         replace H : (zBc.l0 k1 a1 y107 l0_4 (l0_4.length : Int) (wrap64 (x15_1 + 1)) a0_0 a0_1 a0_2 a0_3 l0_4) = some (r1,r2,r3,r4,r5):=by first | (rw [hy107]; with_reducible exact H) | (have H2_:=(Option.bind_some _ _).symm.trans H; rw [hy107]; with_reducible exact H2_) | (have H2_:=(Option.bind_some _ _).symm.trans H; with_reducible exact H2_) | with_reducible exact H | (rw [hy107]; exact H) | exact H
         have Ny107:=Aside0.mk hy107
         clear hy107
         have H':=Aside0.mk H
         clear H
         have p106 : 0 ≤ (x15_1 : Int):=of_decide_eq_true (by first | (with_reducible assumption) | assumption)
         have q106 : x15_1 < (l0_4.length : Int):=of_decide_eq_true (by first | (with_reducible assumption) | assumption)
         obtain ⟨ad106,e106,hx106_0⟩:=Kd.at_int HR0_4.out x15_1 p106 q106
         cases e106
         replace hx106_0:=(HB.out.cell (World.block_lt_of_cell? w _ hx106_0)).trans hx106_0
         replace p106:=eq_true p106
         replace q106:=eq_true q106
         go_wp2_with (first | ((with_reducible refine zBB (b:=.append) (xs:=#[.tmp 19,.tmp 23]) rfl ?_); at_builtin; refine Kd.zCn (Kd.int .i64) (w0:=w) w.heap.size rfl (.tmp 19) (.tmp 23) 22 3 (.int .i64 0) 8 rfl Try.underlying22 info3 rfl (by decide) (by omega) u5 x5_1 (wrap64 ((rd l0_4 x15_1) + a1)) [.int .i64 (wrap64 ((rd l0_4 x15_1) + a1))] (fun _ => True) (fun _ => False) rfl rfl ?aP (fun _ hk => hk.elim) ?aF ?aO ?aB ?aS ?aL ?_; (case aP => exact rfl); (case aB => exact (by repeat (first | (with_reducible first | exact HB.out | apply zAg | apply zAc | apply zAi | refine zAh ?_ GE101.out | refine zAh ?_ GE102.out) | exact HB.out))); (case aF => exact (fun _ _ => trivial)); (case aO => exact (by (with_reducible repeat (first | apply Kd.R_alloc | apply Kd.R_drewN | apply Kd.R_drew)); exact HO_5.out)); (case aS => exact (zAp (by repeat (first | (with_reducible first | exact HB.out | apply zAg | apply zAc | apply zAi | refine zAh ?_ GE101.out | refine zAh ?_ GE102.out) | exact HB.out)))); (case aL => have:=LMc15.out; omega); intro v108 w16 ho hb hg hat; rw [← Ny107.out] at ho; have n0_:=Aside0.mk (zAU (g:=gb101) (o:=.cells #[.int .i64 a0_0,.int .i64 a0_1,.int .i64 a0_2,.string a0_3,.slice (some ad106) l0_4.length c0_4] 24 (0,0)) (by (with_reducible repeat (first | apply zAb | apply zAd | apply zAa)); exact BK101.out) hg (Kd.R_ne HO_5.out BK101.out (by decide))); have n1_:=Aside0.mk (zAU (g:=gb102) (o:=.cells #[.int .i64 0,.int .i64 0,.int .i64 0,.string (⟨#[]⟩ : ByteArray),.slice none 0 0] 24 (0,0)) (by (with_reducible repeat (first | apply zAb | apply zAd | apply zAa)); exact BK102.out) hg (Kd.R_ne HO_5.out BK102.out (by decide))); have n2_:=Aside0.mk (hb); have n3_:=Aside0.mk (ho); clear BK101; clear BK102; clear HB; clear HO_5; have BK101:=n0_; have BK102:=n1_; have HB:=n2_; have HO109:=n3_; clear n0_ n1_ n2_ n3_; clear ho hb hg hat))
         go_roundg k1
         case measure => have:=HK1.out; omega
         case rel => exact ⟨(y107),(wrap64 (x15_1 + 1)),(by first | rfl | (simp; done) | (simp [*]; done)),H',⟨by have:=HK1.out; omega⟩,⟨by (with_reducible repeat (first | apply Kd.R_alloc | apply Kd.R_drewN | apply Kd.R_drew)); exact HO109.out⟩,⟨by (with_reducible repeat (first | apply zAb | apply zAd | apply zAa)); exact BK101.out⟩,⟨by (with_reducible repeat (first | apply zAb | apply zAd | apply zAa)); exact BK102.out⟩,⟨by repeat (first | (with_reducible first | exact HB.out | apply zAg | apply zAc | apply zAi | refine zAh ?_ GE101.out | refine zAh ?_ GE102.out) | exact HB.out)⟩⟩
        ·rw [if_neg c15] at H
         exact absurd H (by simp)
       ·rw [if_neg c14] at H
        exact absurd H (by simp)
      ·rw [if_neg c13] at H
       exact absurd H (by simp)
     ·rw [if_neg c12] at H
      have c12b0 : decide (x15_1 < (l0_4.length : Int)) = false:=decide_eq_false c12
      clear c12
      simp only [Option.some.injEq,Prod.mk.injEq] at H
      obtain ⟨rfl,rfl,rfl,rfl,rfl⟩:=H
      obtain ⟨Ao17,co17,eo17⟩:=Kd.R_slice HO_5.out
      subst eo17
      have hnb18:=NB101_102.out
      have hnc18:=NB102_101.out
      have hcz19_0 : wr.cell? ⟨gb101,0,none⟩ = some (.int .i64 a0_0):=(zAf BK101.out 0).trans rfl
      have hcz19_1 : wr.cell? ⟨gb101,1,none⟩ = some (.int .i64 a0_1):=(zAf BK101.out 1).trans rfl
      have hcz19_2 : wr.cell? ⟨gb101,2,none⟩ = some (.int .i64 a0_2):=(zAf BK101.out 2).trans rfl
      have hcz19_3 : wr.cell? ⟨gb101,3,none⟩ = some (.string a0_3):=(zAf BK101.out 3).trans rfl
      have hcz19_4 : wr.cell? ⟨gb101,4,none⟩ = some (.slice A0_4 l0_4.length c0_4):=(zAf BK101.out 4).trans rfl
      have hfz19_0:=zAe BK101.out 0
      have hfz19_1:=zAe BK101.out 1
      have hfz19_2:=zAe BK101.out 2
      have hfz19_3:=zAe BK101.out 3
      have hfz19_4:=zAe BK101.out 4
      have hcz20_0 : wr.cell? ⟨gb102,0,none⟩ = some (.int .i64 0):=(zAf BK102.out 0).trans rfl
      have hcz20_1 : wr.cell? ⟨gb102,1,none⟩ = some (.int .i64 0):=(zAf BK102.out 1).trans rfl
      have hcz20_2 : wr.cell? ⟨gb102,2,none⟩ = some (.int .i64 0):=(zAf BK102.out 2).trans rfl
      have hcz20_3 : wr.cell? ⟨gb102,3,none⟩ = some (.string (⟨#[]⟩ : ByteArray)):=(zAf BK102.out 3).trans rfl
      have hcz20_4 : wr.cell? ⟨gb102,4,none⟩ = some (.slice none 0 0):=(zAf BK102.out 4).trans rfl
      have hfz20_0:=zAe BK102.out 0
      have hfz20_1:=zAe BK102.out 1
      have hfz20_2:=zAe BK102.out 2
      have hfz20_3:=zAe BK102.out 3
      have hfz20_4:=zAe BK102.out 4
      go_wp2
      refine bodyPost_ret (results_cell_row rfl _ _ gb102 24 #[.int .i64 a0_0,.int .i64 a0_1,.int .i64 a0_2,.string a0_3,.slice Ao17 x5_1.length co17] (0,0) _ rfl (by (with_reducible repeat (first | apply zAb | apply zAd | apply zAa)); refine blk_put (cs:=#[.int .i64 a0_0,.int .i64 a0_1,.int .i64 a0_2,.string a0_3,.slice none 0 0]) ?_ 4 _ rfl; (with_reducible repeat (first | apply zAb | apply zAd | apply zAa)); refine blk_put (cs:=#[.int .i64 a0_0,.int .i64 a0_1,.int .i64 a0_2,.string (⟨#[]⟩ : ByteArray),.slice none 0 0]) ?_ 3 _ rfl; (with_reducible repeat (first | apply zAb | apply zAd | apply zAa)); refine blk_put (cs:=#[.int .i64 a0_0,.int .i64 a0_1,.int .i64 0,.string (⟨#[]⟩ : ByteArray),.slice none 0 0]) ?_ 2 _ rfl; (with_reducible repeat (first | apply zAb | apply zAd | apply zAa)); refine blk_put (cs:=#[.int .i64 a0_0,.int .i64 0,.int .i64 0,.string (⟨#[]⟩ : ByteArray),.slice none 0 0]) ?_ 1 _ rfl; (with_reducible repeat (first | apply zAb | apply zAd | apply zAa)); refine blk_put (cs:=#[.int .i64 0,.int .i64 0,.int .i64 0,.string (⟨#[]⟩ : ByteArray),.slice none 0 0]) ?_ 0 _ rfl; (with_reducible repeat (first | apply zAb | apply zAd | apply zAa)); refine blk_far ?_ NB102_101.out _; (with_reducible repeat (first | apply zAb | apply zAd | apply zAa)); exact BK102.out) Try.underlying24 rfl (by kernel_rfl)) rfl ?_
      exact ⟨_,by first | rfl | (simp [zAo,zAn] <;> rfl) | (simp [*,zAo,zAn] <;> rfl),by (with_reducible repeat (first | apply Kd.R_alloc | apply Kd.R_drewN | apply Kd.R_drew)); exact Kd.R_mono (Kd.R_far (p:=⟨gb102,4,none⟩) (Kd.R_far (p:=⟨gb102,3,none⟩) (Kd.R_far (p:=⟨gb102,2,none⟩) (Kd.R_far (p:=⟨gb102,1,none⟩) (Kd.R_far (p:=⟨gb102,0,none⟩) (Kd.R_far (p:=⟨gb101,4,none⟩) (Kd.R_types (Kd.R_types HO_5.out BK101.out (by decide)) BK102.out (by decide)) (fun _ hk => hk.1.2) (.slice Ao17 x5_1.length co17)) (fun _ hk => hk.2) (.int .i64 a0_0)) (fun _ hk => hk.2) (.int .i64 a0_1)) (fun _ hk => hk.2) (.int .i64 a0_2)) (fun _ hk => hk.2) (.string a0_3)) (fun _ hk => hk.2) (.slice Ao17 x5_1.length co17)) (fun _ hk => trivial),by repeat (first | (with_reducible first | exact HB.out | apply zAg | apply zAc | apply zAi | refine zAh ?_ GE101.out | refine zAh ?_ GE102.out) | exact HB.out)⟩
  ·rw [if_neg c4] at H
   exact absurd H (by simp)
 ·rw [if_neg c3] at H
  exact absurd H (by simp)
end Go.Proofs.Ytpggidmpkhmijaa.P
