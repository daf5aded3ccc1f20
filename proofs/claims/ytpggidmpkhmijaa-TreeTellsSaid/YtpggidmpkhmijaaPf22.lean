import Derived.Test.YtpggidmpkhmijaaRose
import Derived.Test.YtpggidmpkhmijaaPf20
set_option linter.unusedVariables false
set_option linter.unusedSimpArgs false
namespace Go.Proofs.Ytpggidmpkhmijaa.P
open Go.RowKit Go.Proofs.YtpggidmpkhmijaaW.PrintWords Go.Proofs.YtpggidmpkhmijaaW.PrintLast Go.Proofs.YtpggidmpkhmijaaW.PrintMore
attribute [local go_sem] zBa zAY max_two min_two zAR zAT zAZ zAX
mutual
def zAv.l0 : Nat → List Int → Int → List (S24) → Int → Option (Int)
 | 0,_,_,_,_ => none
 | k + 1,x4,x5,x280000,x280001 => if x5 < (x280000.length : Int) then (if 0 ≤ x5 then (if x5 < (x4.length : Int) then (zAv.l1 k (x4.set (x5 : Int).toNat 1) x5 0 x280000 x280001) else (none)) else (none)) else (if 0 ≤ x280001 then (if x280001 < (x4.length : Int) then (some (rd x4 x280001)) else (none)) else (none))
def zAv.l1 : Nat → List Int → Int → Int → List (S24) → Int → Option (Int)
 | 0,_,_,_,_,_ => none
 | k + 1,x4,x5,x6,x280000,x280001 => if 0 ≤ x5 then (if x5 < (x280000.length : Int) then (if x6 < (((rd_T24 x280000 x5).f4).length : Int) then (if x5 < (x4.length : Int) then (if 0 ≤ x6 then (if 0 ≤ (rd ((rd_T24 x280000 x5).f4) x6) then (if (rd ((rd_T24 x280000 x5).f4) x6) < (x4.length : Int) then (zAv.l1 k (x4.set (x5 : Int).toNat (mx (rd x4 x5) (wrap64 (1 + (rd x4 (rd ((rd_T24 x280000 x5).f4) x6)))))) x5 (wrap64 (x6 + 1)) x280000 x280001) else (none)) else (none)) else (none)) else (none)) else (zAv.l0 k x4 (wrap64 (x5 + 1)) x280000 x280001)) else (none)) else (none)
end
def zAv.f (k : Nat) (l0_0 : List (S24)) (a0_1 : Int) : Option (Int):=(zAq.f k l0_0 a0_1).bind fun t280 => (if t280 = true then (if 0 ≤ (l0_0.length : Int) then (if ((l0_0.length : Int) : Int).toNat ≤ 35184372088832 then (zAv.l0 k (List.replicate ((l0_0.length : Int) : Int).toNat 0) 0 l0_0 a0_1) else (none)) else (none)) else (some 0))
def zAv.T12 : Bool × List (List Nat × List Nat):=(true,[([],[]),([],[]),([],[]),([],[]),([2,3],[2,3]),([4],[4]),([],[]),([],[]),([7],[7]),([],[]),([8,9],[8,9]),([10],[10]),([11],[11]),([],[]),([12,13],[12,13]),([14],[14]),([6,15],[6,15]),([16],[16]),([17],[17]),([5,18],[5,18]),([0,1,0,1,2,3,4,5,6,7,8,9,10,11,12,13,14,15,16,17,18,19],[0,1]),([20,19,0,1,2,3,4,5,6,7,8,9,10,11,12,13,14,15,16,17,18,19],[19,20])])
def zAv.B12 : List Nat:=[0,0,0,0,12,28,0,0,128,0,896,1920,3968,0,16256,32640,65472,131008,262080,524284,1048575,2097151]
theorem zAv.tab12 : rtab .any (opsOf Try.f22 12) = zAv.T12:=by kernel_rfl
theorem zAv.bits12 : waitsOk zAv.T12.2 zAv.B12 = true:=by kernel_rfl
set_option maxHeartbeats 8000000 in
set_option maxRecDepth 100000 in
theorem zAv.calls (k : Nat) (A0_0 : Option Addr) (c0_0 : Nat) (l0_0 : List (S24)) (a0_1 : Int) (r : Int) (w : World) (hr0_0 : Kd.C k24 w A0_0 l0_0.length l0_0) (hc0_0 : l0_0.length ≤ c0_0) (h : zAv.f k l0_0 a0_1 = some r) :
  Calls Try.prog 22 #[.agg #[.slice A0_0 l0_0.length c0_0,.int .i64 a0_1]] w fun e w' => e = .returned (.int .i64 r) ∧ Below w.heap.size w w':=by
 have hu30:=Try.underlying30
 have HR0_0:=Aside0.mk hr0_0
 have HC0_0:=Aside0.mk hc0_0
 clear hr0_0 hc0_0
 have HB:=Aside0.mk (Below.refl w.heap.size w)
 have H : ((zAq.f k l0_0 a0_1).bind fun t280 => (if t280 = true then (if 0 ≤ (l0_0.length : Int) then (if ((l0_0.length : Int) : Int).toNat ≤ 35184372088832 then (zAv.l0 k (List.replicate ((l0_0.length : Int) : Int).toNat 0) 0 l0_0 a0_1) else (none)) else (none)) else (some 0))) = some r:=h
 clear h
 replace H:=Option.bind_eq_some_iff.mp H
 obtain ⟨t280,A20,H⟩:=H
 replace H : (if t280 = true then (if 0 ≤ (l0_0.length : Int) then (if ((l0_0.length : Int) : Int).toNat ≤ 35184372088832 then (zAv.l0 k (List.replicate ((l0_0.length : Int) : Int).toNat 0) 0 l0_0 a0_1) else (none)) else (none)) else (some 0)) = some r:=H
 have A2:=Aside0.mk A20
 clear A20
 by_cases c3 : t280 = true
 ·subst c3
  have H1 : (if 0 ≤ (l0_0.length : Int) then (if ((l0_0.length : Int) : Int).toNat ≤ 35184372088832 then (zAv.l0 k (List.replicate ((l0_0.length : Int) : Int).toNat 0) 0 l0_0 a0_1) else (none)) else (none)) = some r:=by rw [if_pos rfl] at H; exact H
  clear H
  have H:=H1
  clear H1
  by_cases c4 : 0 ≤ (l0_0.length : Int)
  ·rw [if_pos c4] at H
   have c4b0:=eq_true c4
   have c4b1 : decide (0 ≤ (l0_0.length : Int)) = true:=decide_eq_true c4
   clear c4
   by_cases c5 : ((l0_0.length : Int) : Int).toNat ≤ 35184372088832
   ·rw [if_pos c5] at H
    have c5b0:=eq_true c5
    have c5b1 : decide (((l0_0.length : Int) : Int).toNat ≤ 35184372088832) = true:=decide_eq_true c5
    clear c5
    obtain ⟨y281,hy281⟩ : ∃ y_ : List Int,y_ = (List.replicate ((l0_0.length : Int) : Int).toNat 0):=⟨_,rfl⟩
    replace H : (zAv.l0 k y281 0 l0_0 a0_1) = some r:=by first | (rw [hy281]; with_reducible exact H) | (have H2_:=(Option.bind_some _ _).symm.trans H; rw [hy281]; with_reducible exact H2_) | (have H2_:=(Option.bind_some _ _).symm.trans H; with_reducible exact H2_) | with_reducible exact H | (rw [hy281]; exact H) | exact H
    have Ny281:=Aside0.mk hy281
    clear hy281
    have H':=Aside0.mk H
    clear H
    go_enter Try.func22,Try.ntmps22
    go_wp2_with (first | ((with_reducible refine zAM (N:=1) rfl ?_); refine zAL ?hg (N:=1) ?hd (cs:=#[.slice A0_0 l0_0.length c0_0,.int .i64 a0_1]) (t:=30) ?hr ?_; (case hd => rfl); (case hg => rfl); (case hr => first | (go_simp; done) | (go_simp; rfl)); intro gb279 hg w6 hbox hb; have n0_:=Aside0.mk (zAm (by repeat (first | (with_reducible first | exact HB.out | apply zAg | apply zAc | apply zAi) | exact HB.out)) hb); have n1_:=Aside0.mk (hbox); have n2_:=Aside0.mk ((by rw [hg]; exact (zAp (by repeat (first | (with_reducible first | exact HB.out | apply zAg | apply zAc | apply zAi) | exact HB.out))) : w.heap.size ≤ gb279)); have n3_:=Aside0.mk ((by rw [hg]; exact (zAp (by repeat (first | (with_reducible first | exact HB.out | apply zAg | apply zAc | apply zAi) | exact HB.out))) : w.heap.size ≤ gb279)); clear HB; have HB:=n0_; have BK279:=n1_; have GW279:=n2_; have GE279:=n3_; clear n0_ n1_ n2_ n3_; clear hb hbox hg; have hcz7_0 : w6.cell? ⟨gb279,0,none⟩ = some (.slice A0_0 l0_0.length c0_0):=(zAf BK279.out 0).trans rfl; have hcz7_1 : w6.cell? ⟨gb279,1,none⟩ = some (.int .i64 a0_1):=(zAf BK279.out 1).trans rfl; have hfz7_0:=zAe BK279.out 0; have hfz7_1:=zAe BK279.out 1) | ((with_reducible refine zAA (f:=20) rfl ?_); refine goesL_ (some 8) rfl rfl Try.func20 (by kernel_rfl) rfl #[.agg #[.slice A0_0 l0_0.length c0_0,.int .i64 a0_1]] rfl (by (try simp only [List.map_toArray,List.map_cons,List.map_nil]); first | done | rfl | (simp only [List.length_drop,List.length_take]; rfl)) ?_; (with_reducible refine (zAq.calls k _ _ l0_0 a0_1 true _ ?side1 ?side2 A2.out).mono ?_); (case side1 => repeat (first | exact (Kd.C_below HR0_0.out HB.out) | (with_reducible refine Kd.C_alloc ?_ _) | (with_reducible refine Kd.C_drewN ?_ _) | (with_reducible refine Kd.C_drew ?_))); (case side2 => exact HC0_0.out); rintro e w8 ⟨rfl,hb⟩; refine ⟨_,rfl,?_⟩; have n0_:=Aside0.mk (zAs (g:=gb279) (o:=.cells #[.slice A0_0 l0_0.length c0_0,.int .i64 a0_1] 30 (0,0)) (by (with_reducible repeat (first | apply zAb | apply zAd | apply zAa)); exact BK279.out) hb); have n1_:=Aside0.mk (zAm (by repeat (first | (with_reducible first | exact HB.out | apply zAg | apply zAc | apply zAi | refine zAh ?_ GE279.out) | exact HB.out)) hb); clear BK279; clear HB; have BK279:=n0_; have HB:=n1_; clear n0_ n1_; (try clear hb); (try clear hb2); (try clear hk); (try clear hi); have hcz9_0 : w8.cell? ⟨gb279,0,none⟩ = some (.slice A0_0 l0_0.length c0_0):=(zAf BK279.out 0).trans rfl; have hcz9_1 : w8.cell? ⟨gb279,1,none⟩ = some (.int .i64 a0_1):=(zAf BK279.out 1).trans rfl; have hfz9_0:=zAe BK279.out 0; have hfz9_1:=zAe BK279.out 1) | ((with_reducible refine zAM (N:=14) rfl ?_); refine Kd.R_make (Kd.int .i64) _ 3 rfl (N:=14) rfl 22 _ _ rfl (l0_0.length : Int) rfl rfl Try.underlying22 (.int .i64 0) 8 info3 rfl (by decide) (by omega) 0 (ok:=fun _ => True) (okp:=fun _ => True) rfl (fun _ hk => hk) trivial (of_decide_eq_true (by first | (with_reducible assumption) | assumption)) (Nat.le_trans (Nat.mul_le_mul_right _ (of_decide_eq_true (by first | (with_reducible assumption) | assumption) : (l0_0.length : Int).toNat ≤ 35184372088832)) (by omega)) (Below.refl _ _) (Nat.le_refl _) ?_; intro v282 w10 ho11 hb hg_ hnew_; clear hg_ hnew_; (first | rw [← Ny281.out] at ho11 | (simp only [Int.reduceToNat] at ho11; rw [← Ny281.out] at ho11)); have n0_:=Aside0.mk (Kd.R_lower ho11 (zAp (by repeat (first | (with_reducible first | exact HB.out | apply zAg | apply zAc | apply zAi | refine zAh ?_ GE279.out) | exact HB.out)))); have n1_:=Aside0.mk (zAs (g:=gb279) (o:=.cells #[.slice A0_0 l0_0.length c0_0,.int .i64 a0_1] 30 (0,0)) (by (with_reducible repeat (first | apply zAb | apply zAd | apply zAa)); exact BK279.out) hb); have n2_:=Aside0.mk (zAm (by repeat (first | (with_reducible first | exact HB.out | apply zAg | apply zAc | apply zAi | refine zAh ?_ GE279.out) | exact HB.out)) hb); clear BK279; clear HB; have HO283:=n0_; have BK279:=n1_; have HB:=n2_; clear n0_ n1_ n2_; clear hb ho11))
    go_loopg [5] k (fun kq v5 w' => ∃ (x4_1 : List Int) (x5_1 : Int),v5 = .int .i64 x5_1 ∧ Aside0 (zAv.l0 kq x4_1 x5_1 l0_0 a0_1 = some r) ∧ Aside0 (kq ≤ k) ∧ Aside0 (Kd.R (Kd.int .i64) 3 w' w.heap.size (fun _ => True) v282 x4_1) ∧ Aside0 (w'.heap[gb279]? = some (.cells #[(.slice A0_0 l0_0.length c0_0),.int .i64 a0_1] 30 (0,0))) ∧ Aside0 (Below w.heap.size w w'))
    case atStart => exact ⟨(y281),(0),(by first | rfl | (simp; done) | (simp [*]; done)),H',⟨Nat.le_refl _⟩,⟨by (with_reducible repeat (first | apply Kd.R_alloc | apply Kd.R_drewN | apply Kd.R_drew)); exact HO283.out⟩,⟨by (with_reducible repeat (first | apply zAb | apply zAd | apply zAa)); exact BK279.out⟩,⟨by repeat (first | (with_reducible first | exact HB.out | apply zAg | apply zAc | apply zAi | refine zAh ?_ GE279.out) | exact HB.out)⟩⟩
    case round =>
     clear H'
     try clear c2
     try clear p2
     try clear c3
     try clear c4
     try clear c4b0
     try clear c4b1
     try clear c5
     try clear c5b0
     try clear c5b1
     try clear hcz7_0
     try clear hcz7_1
     try clear hcz9_0
     try clear hcz9_1
     try clear hfz7_0
     try clear hfz7_1
     try clear hfz9_0
     try clear hfz9_1
     obtain ⟨x4_1,x5_1,rfl,HA,HK1,HO_4,BK279,HB⟩:=hrel
     cases gk with
     | zero => exact absurd HA.out (by simp [zAv.l0])
     | succ k1 =>
      have H:=HA.out
      clear HA
      simp only [zAv.l0] at H
      by_cases c12 : x5_1 < (l0_0.length : Int)
      ·rw [if_pos c12] at H
       have c12b0 : decide (x5_1 < (l0_0.length : Int)) = true:=decide_eq_true c12
       clear c12
       by_cases c13 : 0 ≤ x5_1
       ·rw [if_pos c13] at H
        have c13b0 : decide (0 ≤ x5_1) = true:=decide_eq_true c13
        clear c13
        by_cases c14 : x5_1 < (x4_1.length : Int)
        ·rw [if_pos c14] at H
         have c14b0 : decide (x5_1 < (x4_1.length : Int)) = true:=decide_eq_true c14
         clear c14
         obtain ⟨y285,hy285⟩ : ∃ y_ : List Int,y_ = (x4_1.set (x5_1 : Int).toNat 1):=⟨_,rfl⟩
         replace H : (zAv.l1 k1 y285 x5_1 0 l0_0 a0_1) = some r:=by first | (rw [hy285]; with_reducible exact H) | (have H2_:=(Option.bind_some _ _).symm.trans H; rw [hy285]; with_reducible exact H2_) | (have H2_:=(Option.bind_some _ _).symm.trans H; with_reducible exact H2_) | with_reducible exact H | (rw [hy285]; exact H) | exact H
         have Ny285:=Aside0.mk hy285
         clear hy285
         have H':=Aside0.mk H
         clear H
         have hcz16_0 : wr.cell? ⟨gb279,0,none⟩ = some (.slice A0_0 l0_0.length c0_0):=(zAf BK279.out 0).trans rfl
         have hcz16_1 : wr.cell? ⟨gb279,1,none⟩ = some (.int .i64 a0_1):=(zAf BK279.out 1).trans rfl
         have hfz16_0:=zAe BK279.out 0
         have hfz16_1:=zAe BK279.out 1
         have p15 : 0 ≤ (x5_1 : Int):=of_decide_eq_true (by first | (with_reducible assumption) | assumption)
         have q15 : (x5_1 : Int) < ((x4_1.length : Int) : Int):=of_decide_eq_true (by first | (with_reducible assumption) | assumption)
         obtain ⟨go15,co15,eo15,gb15,gl15,cl15,HG15⟩:=Kd.R_form HO_4.out (by omega)
         (first | cases eo15 | (injection eo15 with ea_ en_ ec_; (first | subst ea_ | (injection ea_ with ea_; subst ea_)); subst ec_; clear en_))
         have GB15:=Aside0.mk gb15
         have GG15:=Aside0.mk HG15
         clear gb15 gl15 HG15
         obtain ⟨hx15_0,hf15_0⟩:=Kd.R_celln 0 HO_4.out (x5_1 : Int) p15 q15
         replace p15:=eq_true p15
         replace q15:=eq_true q15
         have HP17:=Kd.R_putg HO_4.out (x5_1 : Int) 1
         go_wp2_with (first | ((with_reducible refine zBt (t:=3) (p:=24) rfl ?_); refine zBo (t:=3) (p:=24) (v:=?vo_w18) (w1:=(wr.setCell ⟨go15,(x5_1 : Int).toNat,none⟩ (.int .i64 1))) ?hg ?ho ?hn ?hr ?_; (case ho => rfl); (case hg => rfl); (case hn => rfl); (case hr => first | (go_simp; done) | (go_simp; rfl)); intro w18 hw; have hg : wr.grownBy w18 (some go15):=(by rw [hw]; exact HP17.2); have hp_ : Kd.R (Kd.int .i64) 3 w18 w.heap.size (fun _ => True) (.slice (some ⟨go15,0,none⟩) x4_1.length co15) y285:=(by rw [hw,Ny285.out]; exact HP17.1); clear HP17; have n0_:=Aside0.mk (hp_); have n1_:=Aside0.mk (zAU (g:=gb279) (o:=.cells #[.slice A0_0 l0_0.length c0_0,.int .i64 a0_1] 30 (0,0)) (by (with_reducible repeat (first | apply zAb | apply zAd | apply zAa)); exact BK279.out) hg (Kd.R_ne HO_4.out BK279.out (by decide))); have n2_:=Aside0.mk ((by rw [hw]; exact zAh (HB.out) GB15.out : Below w.heap.size w w18)); clear HO_4; clear BK279; clear HB; have HO_4:=n0_; have BK279:=n1_; have HB:=n2_; clear n0_ n1_ n2_; clear hg hw hp_))
         go_loopg [6] k1 (fun kq v6 w' => ∃ (x4_2 : List Int) (x6_2 : Int),v6 = .int .i64 x6_2 ∧ Aside0 (zAv.l1 kq x4_2 x5_1 x6_2 l0_0 a0_1 = some r) ∧ Aside0 (kq ≤ k1) ∧ Aside0 (Kd.R (Kd.int .i64) 3 w' w.heap.size (fun _ => True) (.slice (some ⟨go15,0,none⟩) x4_1.length co15) x4_2) ∧ Aside0 (w'.heap[gb279]? = some (.cells #[(.slice A0_0 l0_0.length c0_0),.int .i64 a0_1] 30 (0,0))) ∧ Aside0 (Below w.heap.size w w'))
         case atStart => exact ⟨(y285),(0),(by first | rfl | (simp; done) | (simp [*]; done)),H',⟨Nat.le_refl _⟩,⟨by (with_reducible repeat (first | apply Kd.R_alloc | apply Kd.R_drewN | apply Kd.R_drew)); exact HO_4.out⟩,⟨by (with_reducible repeat (first | apply zAb | apply zAd | apply zAa)); exact BK279.out⟩,⟨by repeat (first | (with_reducible first | exact HB.out | apply zAg | apply zAc | apply zAi | refine zAh ?_ GE279.out) | exact HB.out)⟩⟩
         case round =>
          clear H'
          try clear c1
          try clear p1
          try clear q1
          try clear hx1
          try clear hf1
          try clear c2
          try clear p2
          try clear c3
          try clear c4
          try clear c4b0
          try clear c4b1
          try clear c5
          try clear c5b0
          try clear c5b1
          try clear c12
          try clear c12b0
          try clear c13
          try clear c13b0
          try clear c14
          try clear c14b0
          try clear p15
          try clear q15
          try clear hx15
          try clear hf15
          try clear hcz16_0
          try clear hcz16_1
          try clear hcz7_0
          try clear hcz7_1
          try clear hcz9_0
          try clear hcz9_1
          try clear hfz16_0
          try clear hfz16_1
          try clear hfz7_0
          try clear hfz7_1
          try clear hfz9_0
          try clear hfz9_1
          try clear hx15_0
          try clear p15
          try clear p2
          try clear q15
          obtain ⟨x4_2,x6_2,rfl,HA,HK2,HO_4,BK279,HB⟩:=hrel
          have hl4_2:=(Kd.zAV HO_4.out).1
          rw [hl4_2] at HO_4
          (try simp only [hl4_2])
          (try simp only [hl4_2] at BK279)
          cases gk with
          | zero => exact absurd HA.out (by simp [zAv.l1])
          | succ k2 =>
           have H:=HA.out
           clear HA
           simp only [zAv.l1] at H
           by_cases c19 : 0 ≤ x5_1
           ·rw [if_pos c19] at H
            have c19b0 : decide (0 ≤ x5_1) = true:=decide_eq_true c19
            clear c19
            by_cases c20 : x5_1 < (l0_0.length : Int)
            ·rw [if_pos c20] at H
             have c20b0 : decide (x5_1 < (l0_0.length : Int)) = true:=decide_eq_true c20
             clear c20
             by_cases c21 : x6_2 < (((rd_T24 l0_0 x5_1).f4).length : Int)
             ·rw [if_pos c21] at H
              have c21b0 : decide (x6_2 < (((rd_T24 l0_0 x5_1).f4).length : Int)) = true:=decide_eq_true c21
              clear c21
              by_cases c22 : x5_1 < (x4_2.length : Int)
              ·rw [if_pos c22] at H
               have c22b0 : decide (x5_1 < (x4_2.length : Int)) = true:=decide_eq_true c22
               clear c22
               by_cases c23 : 0 ≤ x6_2
               ·rw [if_pos c23] at H
                have c23b0 : decide (0 ≤ x6_2) = true:=decide_eq_true c23
                clear c23
                by_cases c24 : 0 ≤ (rd ((rd_T24 l0_0 x5_1).f4) x6_2)
                ·rw [if_pos c24] at H
                 have c24b0 : decide (0 ≤ (rd ((rd_T24 l0_0 x5_1).f4) x6_2)) = true:=decide_eq_true c24
                 clear c24
                 by_cases c25 : (rd ((rd_T24 l0_0 x5_1).f4) x6_2) < (x4_2.length : Int)
                 ·rw [if_pos c25] at H
                  have c25b0 : decide ((rd ((rd_T24 l0_0 x5_1).f4) x6_2) < (x4_2.length : Int)) = true:=decide_eq_true c25
                  clear c25
                  obtain ⟨ji26,hji26⟩ : ∃ j_ : Int,(mx (rd x4_2 x5_1) (wrap64 (1 + (rd x4_2 (rd ((rd_T24 l0_0 x5_1).f4) x6_2))))) = j_:=⟨_,rfl⟩
                  replace H : (zAv.l1 k2 (x4_2.set (x5_1 : Int).toNat (ji26)) x5_1 (wrap64 (x6_2 + 1)) l0_0 a0_1) = some r:=by first | (rw [hji26] at H; exact H) | (simp only [hji26] at H ⊢; exact H)
                  have hji26_ : (if (rd x4_2 x5_1) < (wrap64 (1 + (rd x4_2 (rd ((rd_T24 l0_0 x5_1).f4) x6_2)))) then (wrap64 (1 + (rd x4_2 (rd ((rd_T24 l0_0 x5_1).f4) x6_2)))) else (rd x4_2 x5_1)) = ji26:=hji26
                  obtain ⟨y291,hy291⟩ : ∃ y_ : List Int,y_ = (x4_2.set (x5_1 : Int).toNat (ji26)):=⟨_,rfl⟩
                  replace H : (zAv.l1 k2 y291 x5_1 (wrap64 (x6_2 + 1)) l0_0 a0_1) = some r:=by first | (rw [hy291]; with_reducible exact H) | (have H2_:=(Option.bind_some _ _).symm.trans H; rw [hy291]; with_reducible exact H2_) | (have H2_:=(Option.bind_some _ _).symm.trans H; with_reducible exact H2_) | with_reducible exact H | (rw [hy291]; exact H) | exact H
                  have Ny291:=Aside0.mk hy291
                  clear hy291
                  have H':=Aside0.mk H
                  clear H
                  have hcz28_0 : wr.cell? ⟨gb279,0,none⟩ = some (.slice A0_0 l0_0.length c0_0):=(zAf BK279.out 0).trans rfl
                  have hcz28_1 : wr.cell? ⟨gb279,1,none⟩ = some (.int .i64 a0_1):=(zAf BK279.out 1).trans rfl
                  have hfz28_0:=zAe BK279.out 0
                  have hfz28_1:=zAe BK279.out 1
                  have p286 : 0 ≤ (x5_1 : Int):=of_decide_eq_true (by first | (with_reducible assumption) | assumption)
                  have q286 : x5_1 < (l0_0.length : Int):=of_decide_eq_true (by first | (with_reducible assumption) | assumption)
                  obtain ⟨ad286,A286_4,c286_4,e286,hx286_0,hx286_1,hx286_2,hx286_3,hx286_4,hl286_4,hi286_4⟩:=at_T24 HR0_0.out x5_1 p286 q286
                  cases e286
                  replace hx286_0:=(HB.out.cell (World.block_lt_of_cell? w _ hx286_0)).trans hx286_0
                  replace hx286_1:=(HB.out.cell (World.block_lt_of_cell? w _ hx286_1)).trans hx286_1
                  replace hx286_2:=(HB.out.cell (World.block_lt_of_cell? w _ hx286_2)).trans hx286_2
                  replace hx286_3:=(HB.out.cell (World.block_lt_of_cell? w _ hx286_3)).trans hx286_3
                  replace hx286_4:=(HB.out.cell (World.block_lt_of_cell? w _ hx286_4)).trans hx286_4
                  have HR286_4:=Aside0.mk hi286_4
                  have HC286_4:=Aside0.mk hl286_4
                  clear hi286_4 hl286_4
                  replace p286:=eq_true p286
                  replace q286:=eq_true q286
                  try go_wp2
                  have n0_:=Aside0.mk (Kd.R_drew HO_4.out)
                  have n1_:=Aside0.mk (zAd BK279.out)
                  have n2_:=Aside0.mk (zAi HB.out)
                  clear HO_4
                  clear BK279
                  clear HB
                  have HO_4:=n0_
                  have BK279:=n1_
                  have HB:=n2_
                  clear n0_ n1_ n2_
                  have p287 : 0 ≤ (x5_1 : Int):=of_decide_eq_true (by first | (with_reducible assumption) | assumption)
                  have q287 : x5_1 < (x4_2.length : Int):=of_decide_eq_true (by first | (with_reducible assumption) | assumption)
                  obtain ⟨ad287,e287,hx287_0⟩:=Kd.at_int (Kd.zAV HO_4.out).2.2 x5_1 p287 q287
                  obtain rfl : (⟨go15,0,none⟩ : Addr) = ad287:=(by injection e287)
                  (first | simp only [zCw] at hx287_0 | simp only [add_at] at hx287_0 | simp only [Addr.add,Nat.zero_add] at hx287_0 | skip)
                  replace p287:=eq_true p287
                  replace q287:=eq_true q287
                  have p288 : 0 ≤ (x5_1 : Int):=of_decide_eq_true (by first | (with_reducible assumption) | assumption)
                  have q288 : x5_1 < (l0_0.length : Int):=of_decide_eq_true (by first | (with_reducible assumption) | assumption)
                  obtain ⟨ad288,A288_4,c288_4,e288,hx288_0,hx288_1,hx288_2,hx288_3,hx288_4,hl288_4,hi288_4⟩:=at_T24 HR0_0.out x5_1 p288 q288
                  have hw288_4:=hx288_4
                  have hw288_3:=hx288_3
                  have hw288_2:=hx288_2
                  have hw288_1:=hx288_1
                  have hw288_0:=hx288_0
                  obtain rfl : ad286 = ad288:=(by injection e288)
                  replace hx288_0:=(HB.out.cell (World.block_lt_of_cell? w _ hx288_0)).trans hx288_0
                  replace hx288_1:=(HB.out.cell (World.block_lt_of_cell? w _ hx288_1)).trans hx288_1
                  replace hx288_2:=(HB.out.cell (World.block_lt_of_cell? w _ hx288_2)).trans hx288_2
                  replace hx288_3:=(HB.out.cell (World.block_lt_of_cell? w _ hx288_3)).trans hx288_3
                  replace hx288_4:=(HB.out.cell (World.block_lt_of_cell? w _ hx288_4)).trans hx288_4
                  have HR288_4:=Aside0.mk hi288_4
                  have HC288_4:=Aside0.mk hl288_4
                  clear hi288_4 hl288_4
                  replace p288:=eq_true p288
                  replace q288:=eq_true q288
                  have p289 : 0 ≤ (x6_2 : Int):=of_decide_eq_true (by first | (with_reducible assumption) | assumption)
                  have q289 : x6_2 < (((rd_T24 l0_0 x5_1).f4).length : Int):=of_decide_eq_true (by first | (with_reducible assumption) | assumption)
                  obtain ⟨ad289,e289,hx289_0⟩:=Kd.at_int HR288_4.out x6_2 p289 q289
                  have hw289_0:=hx289_0
                  cases e289
                  replace hx289_0:=(HB.out.cell (World.block_lt_of_cell? w _ hx289_0)).trans hx289_0
                  replace p289:=eq_true p289
                  replace q289:=eq_true q289
                  have p290 : 0 ≤ ((rd ((rd_T24 l0_0 x5_1).f4) x6_2) : Int):=of_decide_eq_true (by first | (with_reducible assumption) | assumption)
                  have q290 : (rd ((rd_T24 l0_0 x5_1).f4) x6_2) < (x4_2.length : Int):=of_decide_eq_true (by first | (with_reducible assumption) | assumption)
                  obtain ⟨ad290,e290,hx290_0⟩:=Kd.at_int (Kd.zAV HO_4.out).2.2 (rd ((rd_T24 l0_0 x5_1).f4) x6_2) p290 q290
                  obtain rfl : (⟨go15,0,none⟩ : Addr) = ad290:=(by injection e290)
                  (first | simp only [zCw] at hx290_0 | simp only [add_at] at hx290_0 | simp only [Addr.add,Nat.zero_add] at hx290_0 | skip)
                  replace p290:=eq_true p290
                  replace q290:=eq_true q290
                  have p27 : 0 ≤ (x5_1 : Int):=of_decide_eq_true (by first | (with_reducible assumption) | assumption)
                  have q27 : (x5_1 : Int) < ((x4_2.length : Int) : Int):=of_decide_eq_true (by first | (with_reducible assumption) | assumption)
                  obtain ⟨hx27_0,hf27_0⟩:=Kd.R_celln 0 HO_4.out (x5_1 : Int) p27 q27
                  replace p27:=eq_true p27
                  replace q27:=eq_true q27
                  have HP30:=Kd.R_putn HO_4.out (x5_1 : Int) ji26
                  rw [← Ny291.out] at HP30
                  have HQ30:=Aside0.mk HP30
                  clear HP30
                  refine start_ (n:=22) (S:=fun w' => w'.cell? ⟨gb279,0,none⟩ = some (.slice (some ad286) l0_0.length c0_0) ∧ w'.cell? ⟨gb279,1,none⟩ = some (.int .i64 a0_1) ∧ w'.cell? ⟨go15,(x5_1).toNat,none⟩ = some (.int .i64 (rd x4_2 x5_1)) ∧ w'.cell? (ad286.add ((x5_1).toNat * 5)) = some (.int .i64 ((rd_T24 l0_0 x5_1).f0)) ∧ w'.cell? ⟨(ad286.add ((x5_1).toNat * 5)).block,(ad286.add ((x5_1).toNat * 5)).off + 1,none⟩ = some (.int .i64 ((rd_T24 l0_0 x5_1).f1)) ∧ w'.cell? ⟨(ad286.add ((x5_1).toNat * 5)).block,(ad286.add ((x5_1).toNat * 5)).off + 2,none⟩ = some (.int .i64 ((rd_T24 l0_0 x5_1).f2)) ∧ w'.cell? ⟨(ad286.add ((x5_1).toNat * 5)).block,(ad286.add ((x5_1).toNat * 5)).off + 3,none⟩ = some (.string ((rd_T24 l0_0 x5_1).f3)) ∧ w'.cell? ⟨(ad286.add ((x5_1).toNat * 5)).block,(ad286.add ((x5_1).toNat * 5)).off + 4,none⟩ = some (.slice (some ad289) ((rd_T24 l0_0 x5_1).f4).length c288_4) ∧ w'.cell? (ad289.add (x6_2).toNat) = some (.int .i64 (rd ((rd_T24 l0_0 x5_1).f4) x6_2)) ∧ w'.cell? ⟨go15,((rd ((rd_T24 l0_0 x5_1).f4) x6_2)).toNat,none⟩ = some (.int .i64 (rd x4_2 (rd ((rd_T24 l0_0 x5_1).f4) x6_2)))) (ds:=[21]) #[false,false,false,false,false,false,false,false,false,false,false,false,false,false,false,false,false,false,false,false,false,false] (by kernel_rfl) rfl rfl ⟨(zAf BK279.out 0).trans rfl,(zAf BK279.out 1).trans rfl,hx287_0,((HB.out.cell (World.block_lt_of_cell? w _ hw288_0)).trans hw288_0),((HB.out.cell (World.block_lt_of_cell? w _ hw288_1)).trans hw288_1),((HB.out.cell (World.block_lt_of_cell? w _ hw288_2)).trans hw288_2),((HB.out.cell (World.block_lt_of_cell? w _ hw288_3)).trans hw288_3),((HB.out.cell (World.block_lt_of_cell? w _ hw288_4)).trans hw288_4),((HB.out.cell (World.block_lt_of_cell? w _ hw289_0)).trans hw289_0),hx290_0⟩ (fun hHeld => ?_); refine zBs zAv.tab12 zAv.bits12 (fun HT_ HW_ => ?_)
                  generalize wr.drew = w29 at HO_4 BK279 HB HQ30 HR288_4 hf27_0 hx27_0 hx287_0 hx288_0 hx288_1 hx288_2 hx288_3 hx288_4 hx289_0 hx290_0 hHeld ⊢
                  refine pure_ (i:=0) (N:=some 36) (v:=?_) (a':=?_) #[true,false,false,false,false,false,false,false,false,false,false,false,false,false,false,false,false,false,false,false,false,false] rfl rfl (any_of HT_.out (by kernel_rfl)) (fun _ _ _ h => h) (Or.inl ⟨by rfl,?_⟩) ?_ ?_
                  rotate_left
                  ·intro w'
                   go_simp
                   with_reducible rfl
                  rotate_left
                  ·simp only [Act.put,List.setIfInBounds_toArray,List.set_cons_zero,List.set_cons_succ,i64_w,i32_w]
                   rfl
                  refine pure_ (i:=1) (N:=some 37) (v:=?_) (a':=?_) #[true,true,false,false,false,false,false,false,false,false,false,false,false,false,false,false,false,false,false,false,false,false] rfl rfl (any_of HT_.out (by kernel_rfl)) (fun _ _ _ h => h) (Or.inl ⟨by rfl,?_⟩) ?_ ?_
                  rotate_left
                  ·intro w'
                   go_simp
                   with_reducible rfl
                  rotate_left
                  ·simp only [Act.put,List.setIfInBounds_toArray,List.set_cons_zero,List.set_cons_succ,i64_w,i32_w]
                   rfl
                  refine pure_ (i:=2) (N:=some 38) (v:=?_) (a':=?_) #[true,true,true,false,false,false,false,false,false,false,false,false,false,false,false,false,false,false,false,false,false,false] rfl rfl (any_of HT_.out (by kernel_rfl)) (fun _ _ _ h => h) (Or.inl ⟨by rfl,?_⟩) ?_ ?_
                  rotate_left
                  ·intro w'
                   go_simp
                   with_reducible rfl
                  rotate_left
                  ·simp only [Act.put,List.setIfInBounds_toArray,List.set_cons_zero,List.set_cons_succ,i64_w,i32_w]
                   rfl
                  refine pure_ (i:=3) (N:=some 39) (v:=?_) (a':=?_) #[true,true,true,true,false,false,false,false,false,false,false,false,false,false,false,false,false,false,false,false,false,false] rfl rfl (any_of HT_.out (by kernel_rfl)) (fun _ _ _ h => h) (Or.inl ⟨by rfl,?_⟩) ?_ ?_
                  rotate_left
                  ·intro w'
                   go_simp
                   with_reducible rfl
                  rotate_left
                  ·simp only [Act.put,List.setIfInBounds_toArray,List.set_cons_zero,List.set_cons_succ,i64_w,i32_w]
                   rfl
                  refine pure_ (i:=4) (N:=some 40) (v:=?_) (a':=?_) #[true,true,true,true,true,false,false,false,false,false,false,false,false,false,false,false,false,false,false,false,false,false] rfl rfl (any_of HT_.out (by kernel_rfl)) (fun _ _ _ h => h) (Or.inl ⟨by rfl,?_⟩) ?_ ?_
                  rotate_left
                  ·intro w'
                   go_simp
                   with_reducible rfl
                  rotate_left
                  ·simp only [Act.put,List.setIfInBounds_toArray,List.set_cons_zero,List.set_cons_succ,i64_w,i32_w]
                   rfl
                  refine pure_ (i:=6) (N:=some 42) (v:=?_) (a':=?_) #[true,true,true,true,true,false,true,false,false,false,false,false,false,false,false,false,false,false,false,false,false,false] rfl rfl (any_of HT_.out (by kernel_rfl)) (fun _ _ _ h => h) (Or.inl ⟨by rfl,?_⟩) ?_ ?_
                  rotate_left
                  ·intro w'
                   go_simp
                   with_reducible rfl
                  rotate_left
                  ·simp only [Act.put,List.setIfInBounds_toArray,List.set_cons_zero,List.set_cons_succ,i64_w,i32_w]
                   rfl
                  refine pure_ (i:=7) (N:=some 43) (v:=?_) (a':=?_) #[true,true,true,true,true,false,true,true,false,false,false,false,false,false,false,false,false,false,false,false,false,false] rfl rfl (any_of HT_.out (by kernel_rfl)) (fun _ _ _ h => h) (Or.inl ⟨by rfl,?_⟩) ?_ ?_
                  rotate_left
                  ·intro w'
                   go_simp
                   with_reducible rfl
                  rotate_left
                  ·simp only [Act.put,List.setIfInBounds_toArray,List.set_cons_zero,List.set_cons_succ,i64_w,i32_w]
                   rfl
                  refine pure_ (i:=9) (N:=some 45) (v:=?_) (a':=?_) #[true,true,true,true,true,false,true,true,false,true,false,false,false,false,false,false,false,false,false,false,false,false] rfl rfl (any_of HT_.out (by kernel_rfl)) (fun _ _ _ h => h) (Or.inl ⟨by rfl,?_⟩) ?_ ?_
                  rotate_left
                  ·intro w'
                   go_simp
                   with_reducible rfl
                  rotate_left
                  ·simp only [Act.put,List.setIfInBounds_toArray,List.set_cons_zero,List.set_cons_succ,i64_w,i32_w]
                   rfl
                  refine pure_ (i:=13) (N:=some 49) (v:=?_) (a':=?_) #[true,true,true,true,true,false,true,true,false,true,false,false,false,true,false,false,false,false,false,false,false,false] rfl rfl (any_of HT_.out (by kernel_rfl)) (fun _ _ _ h => h) (Or.inl ⟨by rfl,?_⟩) ?_ ?_
                  rotate_left
                  ·intro w'
                   go_simp
                   with_reducible rfl
                  rotate_left
                  ·simp only [Act.put,List.setIfInBounds_toArray,List.set_cons_zero,List.set_cons_succ,i64_w,i32_w]
                   rfl
                  refine take_ (i:=5) (N:=some 41) (v:=?_) (a':=?_) #[true,true,true,true,true,true,true,true,false,true,false,false,false,true,false,false,false,false,false,false,false,false] rfl rfl (zBb HT_.out HW_.out (by kernel_rfl)) (fun _ _ _ h => h) (Or.inl ⟨by rfl,?_⟩) hHeld ?_ ?_
                  rotate_left
                  ·rintro w' ⟨s0,s1,s2,s3,s4,s5,s6,s7,s8,s9⟩
                   go_simp
                   with_reducible rfl
                  rotate_left
                  ·simp only [Act.put,List.setIfInBounds_toArray,List.set_cons_zero,List.set_cons_succ,i64_w,i32_w]
                   rfl
                  refine take_ (i:=8) (N:=some 44) (v:=?_) (a':=?_) #[true,true,true,true,true,true,true,true,true,true,false,false,false,true,false,false,false,false,false,false,false,false] rfl rfl (zBb HT_.out HW_.out (by kernel_rfl)) (fun _ _ _ h => h) (Or.inl ⟨by rfl,?_⟩) hHeld ?_ ?_
                  rotate_left
                  ·rintro w' ⟨s0,s1,s2,s3,s4,s5,s6,s7,s8,s9⟩
                   go_simp
                   with_reducible rfl
                  rotate_left
                  ·simp only [Act.put,List.setIfInBounds_toArray,List.set_cons_zero,List.set_cons_succ,i64_w,i32_w]
                   rfl
                  refine pure_ (i:=10) (N:=some 46) (v:=?_) (a':=?_) #[true,true,true,true,true,true,true,true,true,true,true,false,false,true,false,false,false,false,false,false,false,false] rfl rfl (any_of HT_.out (by kernel_rfl)) (fun _ _ _ h => h) (Or.inl ⟨by rfl,?_⟩) ?_ ?_
                  rotate_left
                  ·intro w'
                   go_simp
                   with_reducible rfl
                  rotate_left
                  ·simp only [Act.put,List.setIfInBounds_toArray,List.set_cons_zero,List.set_cons_succ,i64_w,i32_w]
                   rfl
                  refine pure_ (i:=11) (N:=some 47) (v:=?_) (a':=?_) #[true,true,true,true,true,true,true,true,true,true,true,true,false,true,false,false,false,false,false,false,false,false] rfl rfl (any_of HT_.out (by kernel_rfl)) (fun _ _ _ h => h) (Or.inl ⟨by rfl,?_⟩) ?_ ?_
                  rotate_left
                  ·intro w'
                   go_simp
                   with_reducible rfl
                  rotate_left
                  ·simp only [Act.put,List.setIfInBounds_toArray,List.set_cons_zero,List.set_cons_succ,i64_w,i32_w]
                   rfl
                  refine take_ (i:=12) (N:=some 48) (v:=?_) (a':=?_) #[true,true,true,true,true,true,true,true,true,true,true,true,true,true,false,false,false,false,false,false,false,false] rfl rfl (zBb HT_.out HW_.out (by kernel_rfl)) (fun _ _ _ h => h) (Or.inl ⟨by rfl,?_⟩) hHeld ?_ ?_
                  rotate_left
                  ·rintro w' ⟨s0,s1,s2,s3,s4,s5,s6,s7,s8,s9⟩
                   go_simp
                   with_reducible rfl
                  rotate_left
                  ·simp only [Act.put,List.setIfInBounds_toArray,List.set_cons_zero,List.set_cons_succ,i64_w,i32_w]
                   rfl
                  refine pure_ (i:=14) (N:=some 50) (v:=?_) (a':=?_) #[true,true,true,true,true,true,true,true,true,true,true,true,true,true,true,false,false,false,false,false,false,false] rfl rfl (any_of HT_.out (by kernel_rfl)) (fun _ _ _ h => h) (Or.inl ⟨by rfl,?_⟩) ?_ ?_
                  rotate_left
                  ·intro w'
                   go_simp
                   with_reducible rfl
                  rotate_left
                  ·simp only [Act.put,List.setIfInBounds_toArray,List.set_cons_zero,List.set_cons_succ,i64_w,i32_w]
                   rfl
                  refine take_ (i:=15) (N:=some 51) (v:=?_) (a':=?_) #[true,true,true,true,true,true,true,true,true,true,true,true,true,true,true,true,false,false,false,false,false,false] rfl rfl (zBb HT_.out HW_.out (by kernel_rfl)) (fun _ _ _ h => h) (Or.inl ⟨by rfl,?_⟩) hHeld ?_ ?_
                  rotate_left
                  ·rintro w' ⟨s0,s1,s2,s3,s4,s5,s6,s7,s8,s9⟩
                   go_simp
                   with_reducible rfl
                  rotate_left
                  ·simp only [Act.put,List.setIfInBounds_toArray,List.set_cons_zero,List.set_cons_succ,i64_w,i32_w]
                   rfl
                  refine pure_ (i:=16) (N:=some 52) (v:=?_) (a':=?_) #[true,true,true,true,true,true,true,true,true,true,true,true,true,true,true,true,true,false,false,false,false,false] rfl rfl (any_of HT_.out (by kernel_rfl)) (fun _ _ _ h => h) (Or.inl ⟨by rfl,?_⟩) ?_ ?_
                  rotate_left
                  ·intro w'
                   go_simp
                   with_reducible rfl
                  rotate_left
                  ·simp only [Act.put,List.setIfInBounds_toArray,List.set_cons_zero,List.set_cons_succ,i64_w,i32_w]
                   rfl
                  refine take_ (i:=17) (N:=some 53) (v:=?_) (a':=?_) #[true,true,true,true,true,true,true,true,true,true,true,true,true,true,true,true,true,true,false,false,false,false] rfl rfl (zBb HT_.out HW_.out (by kernel_rfl)) (fun _ _ _ h => h) (Or.inl ⟨by rfl,?_⟩) hHeld ?_ ?_
                  rotate_left
                  ·rintro w' ⟨s0,s1,s2,s3,s4,s5,s6,s7,s8,s9⟩
                   go_simp
                   with_reducible rfl
                  rotate_left
                  ·simp only [Act.put,List.setIfInBounds_toArray,List.set_cons_zero,List.set_cons_succ,i64_w,i32_w]
                   rfl
                  refine pure_ (i:=18) (N:=some 54) (v:=?_) (a':=?_) #[true,true,true,true,true,true,true,true,true,true,true,true,true,true,true,true,true,true,true,false,false,false] rfl rfl (any_of HT_.out (by kernel_rfl)) (fun _ _ _ h => h) (Or.inl ⟨by rfl,?_⟩) ?_ ?_
                  rotate_left
                  ·intro w'
                   go_simp
                   with_reducible rfl
                  rotate_left
                  ·simp only [Act.put,List.setIfInBounds_toArray,List.set_cons_zero,List.set_cons_succ,i64_w,i32_w]
                   rfl
                  refine pure_ (i:=19) (N:=some 55) (v:=?_) (a':=?_) #[true,true,true,true,true,true,true,true,true,true,true,true,true,true,true,true,true,true,true,true,false,false] rfl rfl (any_of HT_.out (by kernel_rfl)) (fun _ _ _ h => h) (Or.inl ⟨by rfl,?_⟩) ?_ ?_
                  rotate_left
                  ·intro w'
                   go_simp
                   with_reducible rfl
                  rotate_left
                  ·simp only [Act.put,List.setIfInBounds_toArray,List.set_cons_zero,List.set_cons_succ,i64_w,i32_w]
                   rfl
                  refine pure_ (i:=20) (N:=some 56) (v:=?_) (a':=?_) #[true,true,true,true,true,true,true,true,true,true,true,true,true,true,true,true,true,true,true,true,true,false] rfl rfl (any_of HT_.out (by kernel_rfl)) (fun _ _ _ h => h) (Or.inl ⟨by rfl,?_⟩) ?_ ?_
                  rotate_left
                  ·intro w'
                   go_simp
                   with_reducible rfl
                  rotate_left
                  ·simp only [Act.put,List.setIfInBounds_toArray,List.set_cons_zero,List.set_cons_succ,i64_w,i32_w]
                   rfl
                  refine last_ (i:=21) (N:=none) #[true,true,true,true,true,true,true,true,true,true,true,true,true,true,true,true,true,true,true,true,true,true] rfl rfl (one_of HT_.out (by kernel_rfl)) (by decide) (fun K hK => ?_)
                  refine skip_ (w1:=?_) (by rfl) rfl ?_ ?_
                  rotate_left
                  ·go_simp
                   rfl
                  refine hK.out _ _ ?_
                  clear hK K
                  refine done_ (done_of HT_.out (by kernel_rfl)) ?_
                  try go_wp2
                  (try simp only [← hl4_2])
                  go_roundg k2
                  case measure => have:=HK1.out; have:=HK2.out; omega
                  case rel => exact ⟨(y291),(wrap64 (x6_2 + 1)),(by first | rfl | (simp; done) | (simp [*]; done)),H',⟨by have:=HK1.out; have:=HK2.out; omega⟩,⟨by (try simp only [hl4_2]); (with_reducible repeat (first | apply Kd.R_alloc | apply Kd.R_drewN | apply Kd.R_drew)); exact HQ30.out⟩,⟨by (try simp only [hl4_2]); (with_reducible repeat (first | apply zAb | apply zAd | apply zAa)); refine blk_far ?_ (by have h_:=Kd.R_ne HO_4.out BK279.out (by decide); intro e_; exact h_ (by rw [e_]; rfl)) _; (with_reducible repeat (first | apply zAb | apply zAd | apply zAa)); exact BK279.out⟩,⟨by repeat (first | (with_reducible first | exact HB.out | apply zAg | apply zAc | apply zAi | refine zAh ?_ GB15.out | refine zAh ?_ GE279.out) | exact HB.out)⟩⟩
                 ·rw [if_neg c25] at H
                  exact absurd H (by simp)
                ·rw [if_neg c24] at H
                 exact absurd H (by simp)
               ·rw [if_neg c23] at H
                exact absurd H (by simp)
              ·rw [if_neg c22] at H
               exact absurd H (by simp)
             ·rw [if_neg c21] at H
              have c21b0 : decide (x6_2 < (((rd_T24 l0_0 x5_1).f4).length : Int)) = false:=decide_eq_false c21
              clear c21
              have H':=Aside0.mk H
              clear H
              have hcz31_0 : wr.cell? ⟨gb279,0,none⟩ = some (.slice A0_0 l0_0.length c0_0):=(zAf BK279.out 0).trans rfl
              have hcz31_1 : wr.cell? ⟨gb279,1,none⟩ = some (.int .i64 a0_1):=(zAf BK279.out 1).trans rfl
              have hfz31_0:=zAe BK279.out 0
              have hfz31_1:=zAe BK279.out 1
              have p286 : 0 ≤ (x5_1 : Int):=of_decide_eq_true (by first | (with_reducible assumption) | assumption)
              have q286 : x5_1 < (l0_0.length : Int):=of_decide_eq_true (by first | (with_reducible assumption) | assumption)
              obtain ⟨ad286,A286_4,c286_4,e286,hx286_0,hx286_1,hx286_2,hx286_3,hx286_4,hl286_4,hi286_4⟩:=at_T24 HR0_0.out x5_1 p286 q286
              cases e286
              replace hx286_0:=(HB.out.cell (World.block_lt_of_cell? w _ hx286_0)).trans hx286_0
              replace hx286_1:=(HB.out.cell (World.block_lt_of_cell? w _ hx286_1)).trans hx286_1
              replace hx286_2:=(HB.out.cell (World.block_lt_of_cell? w _ hx286_2)).trans hx286_2
              replace hx286_3:=(HB.out.cell (World.block_lt_of_cell? w _ hx286_3)).trans hx286_3
              replace hx286_4:=(HB.out.cell (World.block_lt_of_cell? w _ hx286_4)).trans hx286_4
              have HR286_4:=Aside0.mk hi286_4
              have HC286_4:=Aside0.mk hl286_4
              clear hi286_4 hl286_4
              replace p286:=eq_true p286
              replace q286:=eq_true q286
              go_wp2
              (try simp only [← hl4_2])
              go_roundg k2
              case measure => have:=HK1.out; have:=HK2.out; omega
              case rel => exact ⟨(x4_2),(wrap64 (x5_1 + 1)),(by first | rfl | (simp; done) | (simp [*]; done)),H',⟨by have:=HK1.out; have:=HK2.out; omega⟩,⟨by (try simp only [hl4_2]); (with_reducible repeat (first | apply Kd.R_alloc | apply Kd.R_drewN | apply Kd.R_drew)); exact HO_4.out⟩,⟨by (try simp only [hl4_2]); (with_reducible repeat (first | apply zAb | apply zAd | apply zAa)); exact BK279.out⟩,⟨by repeat (first | (with_reducible first | exact HB.out | apply zAg | apply zAc | apply zAi | refine zAh ?_ GE279.out) | exact HB.out)⟩⟩
            ·rw [if_neg c20] at H
             exact absurd H (by simp)
           ·rw [if_neg c19] at H
            exact absurd H (by simp)
        ·rw [if_neg c14] at H
         exact absurd H (by simp)
       ·rw [if_neg c13] at H
        exact absurd H (by simp)
      ·rw [if_neg c12] at H
       have c12b0 : decide (x5_1 < (l0_0.length : Int)) = false:=decide_eq_false c12
       clear c12
       by_cases c32 : 0 ≤ a0_1
       ·rw [if_pos c32] at H
        have c32b0 : decide (0 ≤ a0_1) = true:=decide_eq_true c32
        clear c32
        by_cases c33 : a0_1 < (x4_1.length : Int)
        ·rw [if_pos c33] at H
         have c33b0 : decide (a0_1 < (x4_1.length : Int)) = true:=decide_eq_true c33
         clear c33
         obtain rfl:=Option.some.inj H
         have hcz34_0 : wr.cell? ⟨gb279,0,none⟩ = some (.slice A0_0 l0_0.length c0_0):=(zAf BK279.out 0).trans rfl
         have hcz34_1 : wr.cell? ⟨gb279,1,none⟩ = some (.int .i64 a0_1):=(zAf BK279.out 1).trans rfl
         have hfz34_0:=zAe BK279.out 0
         have hfz34_1:=zAe BK279.out 1
         obtain ⟨Ao35,co35,eo35⟩:=Kd.R_slice HO_4.out
         subst eo35
         have p284 : 0 ≤ (a0_1 : Int):=of_decide_eq_true (by first | (with_reducible assumption) | assumption)
         have q284 : a0_1 < (x4_1.length : Int):=of_decide_eq_true (by first | (with_reducible assumption) | assumption)
         obtain ⟨ad284,e284,hx284_0⟩:=Kd.at_int (Kd.zAV HO_4.out).2.2 a0_1 p284 q284
         cases e284
         replace p284:=eq_true p284
         replace q284:=eq_true q284
         go_wp2
         go_ret
         exact ⟨by first | rfl | (simp [zAo,zAn] <;> rfl) | (simp [*,zAo,zAn] <;> rfl),by repeat (first | (with_reducible first | exact HB.out | apply zAg | apply zAc | apply zAi | refine zAh ?_ GE279.out) | exact HB.out)⟩
        ·rw [if_neg c33] at H
         exact absurd H (by simp)
       ·rw [if_neg c32] at H
        exact absurd H (by simp)
   ·rw [if_neg c5] at H
    exact absurd H (by simp)
  ·rw [if_neg c4] at H
   exact absurd H (by simp)
 ·replace c3:=Bool.eq_false_iff.mpr c3
  subst c3
  have H1 : (some 0) = some r:=by rw [if_neg (show ¬ (false = true) by decide)] at H; exact H
  clear H
  have H:=H1
  clear H1
  obtain rfl:=Option.some.inj H
  go_enter Try.func22,Try.ntmps22
  go_wp2_with (first | ((with_reducible refine zAM (N:=1) rfl ?_); refine zAL ?hg (N:=1) ?hd (cs:=#[.slice A0_0 l0_0.length c0_0,.int .i64 a0_1]) (t:=30) ?hr ?_; (case hd => rfl); (case hg => rfl); (case hr => first | (go_simp; done) | (go_simp; rfl)); intro gb279 hg w36 hbox hb; have n0_:=Aside0.mk (zAm (by repeat (first | (with_reducible first | exact HB.out | apply zAg | apply zAc | apply zAi) | exact HB.out)) hb); have n1_:=Aside0.mk (hbox); have n2_:=Aside0.mk ((by rw [hg]; exact (zAp (by repeat (first | (with_reducible first | exact HB.out | apply zAg | apply zAc | apply zAi) | exact HB.out))) : w.heap.size ≤ gb279)); have n3_:=Aside0.mk ((by rw [hg]; exact (zAp (by repeat (first | (with_reducible first | exact HB.out | apply zAg | apply zAc | apply zAi) | exact HB.out))) : w.heap.size ≤ gb279)); clear HB; have HB:=n0_; have BK279:=n1_; have GW279:=n2_; have GE279:=n3_; clear n0_ n1_ n2_ n3_; clear hb hbox hg; have hcz37_0 : w36.cell? ⟨gb279,0,none⟩ = some (.slice A0_0 l0_0.length c0_0):=(zAf BK279.out 0).trans rfl; have hcz37_1 : w36.cell? ⟨gb279,1,none⟩ = some (.int .i64 a0_1):=(zAf BK279.out 1).trans rfl; have hfz37_0:=zAe BK279.out 0; have hfz37_1:=zAe BK279.out 1) | ((with_reducible refine zAA (f:=20) rfl ?_); refine goesL_ (some 8) rfl rfl Try.func20 (by kernel_rfl) rfl #[.agg #[.slice A0_0 l0_0.length c0_0,.int .i64 a0_1]] rfl (by (try simp only [List.map_toArray,List.map_cons,List.map_nil]); first | done | rfl | (simp only [List.length_drop,List.length_take]; rfl)) ?_; (with_reducible refine (zAq.calls k _ _ l0_0 a0_1 false _ ?side1 ?side2 A2.out).mono ?_); (case side1 => repeat (first | exact (Kd.C_below HR0_0.out HB.out) | (with_reducible refine Kd.C_alloc ?_ _) | (with_reducible refine Kd.C_drewN ?_ _) | (with_reducible refine Kd.C_drew ?_))); (case side2 => exact HC0_0.out); rintro e w38 ⟨rfl,hb⟩; refine ⟨_,rfl,?_⟩; have n0_:=Aside0.mk (zAs (g:=gb279) (o:=.cells #[.slice A0_0 l0_0.length c0_0,.int .i64 a0_1] 30 (0,0)) (by (with_reducible repeat (first | apply zAb | apply zAd | apply zAa)); exact BK279.out) hb); have n1_:=Aside0.mk (zAm (by repeat (first | (with_reducible first | exact HB.out | apply zAg | apply zAc | apply zAi | refine zAh ?_ GE279.out) | exact HB.out)) hb); clear BK279; clear HB; have BK279:=n0_; have HB:=n1_; clear n0_ n1_; (try clear hb); (try clear hb2); (try clear hk); (try clear hi)))
  go_ret
  exact ⟨by first | rfl | (simp [zAo,zAn] <;> rfl) | (simp [*,zAo,zAn] <;> rfl),by repeat (first | (with_reducible first | exact HB.out | apply zAg | apply zAc | apply zAi | refine zAh ?_ GE279.out) | exact HB.out)⟩
end Go.Proofs.Ytpggidmpkhmijaa.P
