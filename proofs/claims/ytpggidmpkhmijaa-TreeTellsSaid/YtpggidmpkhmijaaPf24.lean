import Derived.Test.YtpggidmpkhmijaaRose
import Derived.Test.YtpggidmpkhmijaaPf20
set_option linter.unusedVariables false
set_option linter.unusedSimpArgs false
namespace Go.Proofs.Ytpggidmpkhmijaa.P
open Go.RowKit Go.Proofs.YtpggidmpkhmijaaW.PrintWords Go.Proofs.YtpggidmpkhmijaaW.PrintLast Go.Proofs.YtpggidmpkhmijaaW.PrintMore
attribute [local go_sem] zBa zAY max_two min_two zAR zAT zAZ zAX
mutual
def zAy.l0 : Nat → List Int → Int → List (S24) → Int → Option (List Int)
 | 0,_,_,_,_ => none
 | k + 1,x4,x5,x353000,x353001 => if x5 < (x353000.length : Int) then (zAy.l1 k x4 x5 0 x353000 x353001) else (some x4)
def zAy.l1 : Nat → List Int → Int → Int → List (S24) → Int → Option (List Int)
 | 0,_,_,_,_,_ => none
 | k + 1,x4,x5,x6,x353000,x353001 => if 0 ≤ x5 then (if x5 < (x353000.length : Int) then (if x6 < (((rd_T24 x353000 x5).f4).length : Int) then (if 0 ≤ x6 then (if 0 ≤ (rd ((rd_T24 x353000 x5).f4) x6) then (if (rd ((rd_T24 x353000 x5).f4) x6) < (x4.length : Int) then (zAy.l1 k (x4.set ((rd ((rd_T24 x353000 x5).f4) x6) : Int).toNat x5) x5 (wrap64 (x6 + 1)) x353000 x353001) else (none)) else (none)) else (none)) else (zAy.l0 k x4 (wrap64 (x5 + 1)) x353000 x353001)) else (none)) else (none)
end
def zAy.f (k : Nat) (l0_0 : List (S24)) (a0_1 : Int) : Option (List Int):=(zAq.f k l0_0 a0_1).bind fun t353 => (if t353 = true then (if 0 ≤ (l0_0.length : Int) then (if ((l0_0.length : Int) : Int).toNat ≤ 35184372088832 then ((some (List.replicate ((l0_0.length : Int) : Int).toNat 0 : List Int)).bind fun y354 => (if 0 ≤ a0_1 then (if a0_1 < (y354.length : Int) then (zAy.l0 k (y354.set (a0_1 : Int).toNat (-1)) 0 l0_0 a0_1) else (none)) else (none))) else (none)) else (none)) else (some ([] : List Int)))
set_option maxHeartbeats 8000000 in
set_option maxRecDepth 100000 in
theorem zAy.calls (k : Nat) (A0_0 : Option Addr) (c0_0 : Nat) (l0_0 : List (S24)) (a0_1 : Int) (r : List Int) (w : World) (hr0_0 : Kd.C k24 w A0_0 l0_0.length l0_0) (hc0_0 : l0_0.length ≤ c0_0) (h : zAy.f k l0_0 a0_1 = some r) :
  Calls Try.prog 24 #[.agg #[.slice A0_0 l0_0.length c0_0,.int .i64 a0_1]] w fun e w' => ∃ v0_ : Value,e = .returned (v0_) ∧ Kd.R (Kd.int .i64) 3 w' w.heap.size (fun _ => True) v0_ r ∧ Below w.heap.size w w':=by
 have hu30:=Try.underlying30
 have HR0_0:=Aside0.mk hr0_0
 have HC0_0:=Aside0.mk hc0_0
 clear hr0_0 hc0_0
 have HB:=Aside0.mk (Below.refl w.heap.size w)
 have H : ((zAq.f k l0_0 a0_1).bind fun t353 => (if t353 = true then (if 0 ≤ (l0_0.length : Int) then (if ((l0_0.length : Int) : Int).toNat ≤ 35184372088832 then ((some (List.replicate ((l0_0.length : Int) : Int).toNat 0 : List Int)).bind fun y354 => (if 0 ≤ a0_1 then (if a0_1 < (y354.length : Int) then (zAy.l0 k (y354.set (a0_1 : Int).toNat (-1)) 0 l0_0 a0_1) else (none)) else (none))) else (none)) else (none)) else (some ([] : List Int)))) = some r:=h
 clear h
 replace H:=Option.bind_eq_some_iff.mp H
 obtain ⟨t353,A20,H⟩:=H
 replace H : (if t353 = true then (if 0 ≤ (l0_0.length : Int) then (if ((l0_0.length : Int) : Int).toNat ≤ 35184372088832 then ((some (List.replicate ((l0_0.length : Int) : Int).toNat 0 : List Int)).bind fun y354 => (if 0 ≤ a0_1 then (if a0_1 < (y354.length : Int) then (zAy.l0 k (y354.set (a0_1 : Int).toNat (-1)) 0 l0_0 a0_1) else (none)) else (none))) else (none)) else (none)) else (some ([] : List Int))) = some r:=H
 have A2:=Aside0.mk A20
 clear A20
 by_cases c3 : t353 = true
 ·subst c3
  have H1 : (if 0 ≤ (l0_0.length : Int) then (if ((l0_0.length : Int) : Int).toNat ≤ 35184372088832 then ((some (List.replicate ((l0_0.length : Int) : Int).toNat 0 : List Int)).bind fun y354 => (if 0 ≤ a0_1 then (if a0_1 < (y354.length : Int) then (zAy.l0 k (y354.set (a0_1 : Int).toNat (-1)) 0 l0_0 a0_1) else (none)) else (none))) else (none)) else (none)) = some r:=by rw [if_pos rfl] at H; exact H
  clear H
  have H:=H1
  clear H1
  by_cases c4 : 0 ≤ (l0_0.length : Int)
  ·rw [if_pos c4] at H
   have c4b0:=eq_true c4
   have c4b1 : decide (0 ≤ (l0_0.length : Int)) = true:=decide_eq_true c4
   clear c4
   by_cases c5 : ((l0_0.length : Int) : Int).toNat ≤ 35184372088832
   ·rw [if_pos c5] at H
    have c5b0:=eq_true c5
    have c5b1 : decide (((l0_0.length : Int) : Int).toNat ≤ 35184372088832) = true:=decide_eq_true c5
    clear c5
    obtain ⟨y354,hy354⟩ : ∃ y_ : List Int,y_ = (List.replicate ((l0_0.length : Int) : Int).toNat 0):=⟨_,rfl⟩
    replace H : (if 0 ≤ a0_1 then (if a0_1 < (y354.length : Int) then (zAy.l0 k (y354.set (a0_1 : Int).toNat (-1)) 0 l0_0 a0_1) else (none)) else (none)) = some r:=by first | (rw [hy354]; with_reducible exact H) | (have H2_:=(Option.bind_some _ _).symm.trans H; rw [hy354]; with_reducible exact H2_) | (have H2_:=(Option.bind_some _ _).symm.trans H; with_reducible exact H2_) | with_reducible exact H | (rw [hy354]; exact H) | exact H
    have Ny354:=Aside0.mk hy354
    clear hy354
    by_cases c6 : 0 ≤ a0_1
    ·rw [if_pos c6] at H
     have c6b0 : decide (0 ≤ a0_1) = true:=decide_eq_true c6
     clear c6
     by_cases c7 : a0_1 < (y354.length : Int)
     ·rw [if_pos c7] at H
      have c7b0 : decide (a0_1 < (y354.length : Int)) = true:=decide_eq_true c7
      clear c7
      obtain ⟨y357,hy357⟩ : ∃ y_ : List Int,y_ = (y354.set (a0_1 : Int).toNat (-1)):=⟨_,rfl⟩
      replace H : (zAy.l0 k y357 0 l0_0 a0_1) = some r:=by first | (rw [hy357]; with_reducible exact H) | (have H2_:=(Option.bind_some _ _).symm.trans H; rw [hy357]; with_reducible exact H2_) | (have H2_:=(Option.bind_some _ _).symm.trans H; with_reducible exact H2_) | with_reducible exact H | (rw [hy357]; exact H) | exact H
      have Ny357:=Aside0.mk hy357
      clear hy357
      have H':=Aside0.mk H
      clear H
      go_enter Try.func24,Try.ntmps24
      go_wp2_with (first | ((with_reducible refine zAM (N:=1) rfl ?_); refine zAL ?hg (N:=1) ?hd (cs:=#[.slice A0_0 l0_0.length c0_0,.int .i64 a0_1]) (t:=30) ?hr ?_; (case hd => rfl); (case hg => rfl); (case hr => first | (go_simp; done) | (go_simp; rfl)); intro gb352 hg w9 hbox hb; have n0_:=Aside0.mk (zAm (by repeat (first | (with_reducible first | exact HB.out | apply zAg | apply zAc | apply zAi) | exact HB.out)) hb); have n1_:=Aside0.mk (hbox); have n2_:=Aside0.mk ((by rw [hg]; exact (zAp (by repeat (first | (with_reducible first | exact HB.out | apply zAg | apply zAc | apply zAi) | exact HB.out))) : w.heap.size ≤ gb352)); have n3_:=Aside0.mk ((by rw [hg]; exact (zAp (by repeat (first | (with_reducible first | exact HB.out | apply zAg | apply zAc | apply zAi) | exact HB.out))) : w.heap.size ≤ gb352)); clear HB; have HB:=n0_; have BK352:=n1_; have GW352:=n2_; have GE352:=n3_; clear n0_ n1_ n2_ n3_; clear hb hbox hg; have hcz10_0 : w9.cell? ⟨gb352,0,none⟩ = some (.slice A0_0 l0_0.length c0_0):=(zAf BK352.out 0).trans rfl; have hcz10_1 : w9.cell? ⟨gb352,1,none⟩ = some (.int .i64 a0_1):=(zAf BK352.out 1).trans rfl; have hfz10_0:=zAe BK352.out 0; have hfz10_1:=zAe BK352.out 1) | ((with_reducible refine zAA (f:=20) rfl ?_); refine goesL_ (some 8) rfl rfl Try.func20 (by kernel_rfl) rfl #[.agg #[.slice A0_0 l0_0.length c0_0,.int .i64 a0_1]] rfl (by (try simp only [List.map_toArray,List.map_cons,List.map_nil]); first | done | rfl | (simp only [List.length_drop,List.length_take]; rfl)) ?_; (with_reducible refine (zAq.calls k _ _ l0_0 a0_1 true _ ?side1 ?side2 A2.out).mono ?_); (case side1 => repeat (first | exact (Kd.C_below HR0_0.out HB.out) | (with_reducible refine Kd.C_alloc ?_ _) | (with_reducible refine Kd.C_drewN ?_ _) | (with_reducible refine Kd.C_drew ?_))); (case side2 => exact HC0_0.out); rintro e w11 ⟨rfl,hb⟩; refine ⟨_,rfl,?_⟩; have n0_:=Aside0.mk (zAs (g:=gb352) (o:=.cells #[.slice A0_0 l0_0.length c0_0,.int .i64 a0_1] 30 (0,0)) (by (with_reducible repeat (first | apply zAb | apply zAd | apply zAa)); exact BK352.out) hb); have n1_:=Aside0.mk (zAm (by repeat (first | (with_reducible first | exact HB.out | apply zAg | apply zAc | apply zAi | refine zAh ?_ GE352.out) | exact HB.out)) hb); clear BK352; clear HB; have BK352:=n0_; have HB:=n1_; clear n0_ n1_; (try clear hb); (try clear hb2); (try clear hk); (try clear hi); have hcz12_0 : w11.cell? ⟨gb352,0,none⟩ = some (.slice A0_0 l0_0.length c0_0):=(zAf BK352.out 0).trans rfl; have hcz12_1 : w11.cell? ⟨gb352,1,none⟩ = some (.int .i64 a0_1):=(zAf BK352.out 1).trans rfl; have hfz12_0:=zAe BK352.out 0; have hfz12_1:=zAe BK352.out 1) | ((with_reducible refine zAM (N:=14) rfl ?_); refine Kd.R_make (Kd.int .i64) _ 3 rfl (N:=14) rfl 22 _ _ rfl (l0_0.length : Int) rfl rfl Try.underlying22 (.int .i64 0) 8 info3 rfl (by decide) (by omega) 0 (ok:=fun _ => True) (okp:=fun _ => True) rfl (fun _ hk => hk) trivial (of_decide_eq_true (by first | (with_reducible assumption) | assumption)) (Nat.le_trans (Nat.mul_le_mul_right _ (of_decide_eq_true (by first | (with_reducible assumption) | assumption) : (l0_0.length : Int).toNat ≤ 35184372088832)) (by omega)) (Below.refl _ _) (Nat.le_refl _) ?_; intro v355 w13 ho14 hb hg_ hnew_; clear hg_ hnew_; (first | rw [← Ny354.out] at ho14 | (simp only [Int.reduceToNat] at ho14; rw [← Ny354.out] at ho14)); have n0_:=Aside0.mk (Kd.R_lower ho14 (zAp (by repeat (first | (with_reducible first | exact HB.out | apply zAg | apply zAc | apply zAi | refine zAh ?_ GE352.out) | exact HB.out)))); have n1_:=Aside0.mk (zAs (g:=gb352) (o:=.cells #[.slice A0_0 l0_0.length c0_0,.int .i64 a0_1] 30 (0,0)) (by (with_reducible repeat (first | apply zAb | apply zAd | apply zAa)); exact BK352.out) hb); have n2_:=Aside0.mk (zAm (by repeat (first | (with_reducible first | exact HB.out | apply zAg | apply zAc | apply zAi | refine zAh ?_ GE352.out) | exact HB.out)) hb); clear BK352; clear HB; have HO356:=n0_; have BK352:=n1_; have HB:=n2_; clear n0_ n1_ n2_; clear hb ho14; have hcz15_0 : w13.cell? ⟨gb352,0,none⟩ = some (.slice A0_0 l0_0.length c0_0):=(zAf BK352.out 0).trans rfl; have hcz15_1 : w13.cell? ⟨gb352,1,none⟩ = some (.int .i64 a0_1):=(zAf BK352.out 1).trans rfl; have hfz15_0:=zAe BK352.out 0; have hfz15_1:=zAe BK352.out 1; have p8 : 0 ≤ (a0_1 : Int):=of_decide_eq_true (by first | (with_reducible assumption) | assumption); have q8 : (a0_1 : Int) < ((y354.length : Int) : Int):=of_decide_eq_true (by first | (with_reducible assumption) | assumption); obtain ⟨go8,co8,eo8,gb8,gl8,cl8,HG8⟩:=Kd.R_form HO356.out (by omega); (first | cases eo8 | (injection eo8 with ea_ en_ ec_; (first | subst ea_ | (injection ea_ with ea_; subst ea_)); subst ec_; clear en_)); have GB8:=Aside0.mk gb8; have GG8:=Aside0.mk HG8; clear gb8 gl8 HG8; obtain ⟨hx8_0,hf8_0⟩:=Kd.R_celln 0 HO356.out (a0_1 : Int) p8 q8; replace p8:=eq_true p8; replace q8:=eq_true q8; obtain ⟨hy16_,hz16_⟩:=Kd.R_celln 0 HO356.out (a0_1 : Int) (of_decide_eq_true (by first | (with_reducible assumption) | assumption)) (of_decide_eq_true (by first | (with_reducible assumption) | assumption)); have HP16:=Kd.R_putg HO356.out (a0_1 : Int) (-1)) | ((with_reducible refine zBt (t:=3) (p:=18) rfl ?_); refine zBo (t:=3) (p:=18) (v:=?vo_w17) (w1:=(w13.setCell ⟨go8,(a0_1 : Int).toNat,none⟩ (.int .i64 (-1)))) ?hg ?ho ?hn ?hr ?_; (case ho => rfl); (case hg => rfl); (case hn => rfl); (case hr => first | (go_simp; done) | (go_simp; rfl)); intro w17 hw; have hg : w13.grownBy w17 (some go8):=(by rw [hw]; exact HP16.2); have hp_ : Kd.R (Kd.int .i64) 3 w17 w.heap.size (fun _ => True) (.slice (some ⟨go8,0,none⟩) y354.length co8) y357:=(by rw [hw,Ny357.out]; exact HP16.1); clear HP16; have n0_:=Aside0.mk (zAU (g:=gb352) (o:=.cells #[.slice A0_0 l0_0.length c0_0,.int .i64 a0_1] 30 (0,0)) (by (with_reducible repeat (first | apply zAb | apply zAd | apply zAa)); exact BK352.out) hg (Kd.R_ne HO356.out BK352.out (by decide))); have n1_:=Aside0.mk (hp_); have n2_:=Aside0.mk ((by rw [hw]; exact zAh (HB.out) GB8.out : Below w.heap.size w w17)); clear BK352; clear HO356; clear HB; have BK352:=n0_; have HO356:=n1_; have HB:=n2_; clear n0_ n1_ n2_; clear hg hw hp_))
      go_loopg [5] k (fun kq v5 w' => ∃ (x4_1 : List Int) (x5_1 : Int),v5 = .int .i64 x5_1 ∧ Aside0 (zAy.l0 kq x4_1 x5_1 l0_0 a0_1 = some r) ∧ Aside0 (kq ≤ k) ∧ Aside0 (Kd.R (Kd.int .i64) 3 w' w.heap.size (fun _ => True) (.slice (some ⟨go8,0,none⟩) y354.length co8) x4_1) ∧ Aside0 (w'.heap[gb352]? = some (.cells #[(.slice A0_0 l0_0.length c0_0),.int .i64 a0_1] 30 (0,0))) ∧ Aside0 (Below w.heap.size w w'))
      case atStart => exact ⟨(y357),(0),(by first | rfl | (simp; done) | (simp [*]; done)),H',⟨Nat.le_refl _⟩,⟨by (with_reducible repeat (first | apply Kd.R_alloc | apply Kd.R_drewN | apply Kd.R_drew)); exact HO356.out⟩,⟨by (with_reducible repeat (first | apply zAb | apply zAd | apply zAa)); exact BK352.out⟩,⟨by repeat (first | (with_reducible first | exact HB.out | apply zAg | apply zAc | apply zAi | refine zAh ?_ GE352.out) | exact HB.out)⟩⟩
      case round =>
       clear H'
       try clear c2
       try clear p2
       try clear c3
       try clear c4
       try clear c4b0
       try clear c4b1
       try clear c5
       try clear c5b0
       try clear c5b1
       try clear c6
       try clear c6b0
       try clear c7
       try clear c7b0
       try clear p8
       try clear q8
       try clear hx8
       try clear hf8
       try clear hcz10_0
       try clear hcz10_1
       try clear hcz12_0
       try clear hcz12_1
       try clear hcz15_0
       try clear hcz15_1
       try clear hfz10_0
       try clear hfz10_1
       try clear hfz12_0
       try clear hfz12_1
       try clear hfz15_0
       try clear hfz15_1
       try clear hx8_0
       try clear p8
       try clear q8
       obtain ⟨x4_1,x5_1,rfl,HA,HK1,HO_4,BK352,HB⟩:=hrel
       have hl4_1:=(Kd.zAV HO_4.out).1
       rw [hl4_1] at HO_4
       (try simp only [hl4_1])
       (try simp only [hl4_1] at BK352)
       cases gk with
       | zero => exact absurd HA.out (by simp [zAy.l0])
       | succ k1 =>
        have H:=HA.out
        clear HA
        simp only [zAy.l0] at H
        by_cases c18 : x5_1 < (l0_0.length : Int)
        ·rw [if_pos c18] at H
         have c18b0 : decide (x5_1 < (l0_0.length : Int)) = true:=decide_eq_true c18
         clear c18
         have H':=Aside0.mk H
         clear H
         have hcz19_0 : wr.cell? ⟨gb352,0,none⟩ = some (.slice A0_0 l0_0.length c0_0):=(zAf BK352.out 0).trans rfl
         have hcz19_1 : wr.cell? ⟨gb352,1,none⟩ = some (.int .i64 a0_1):=(zAf BK352.out 1).trans rfl
         have hfz19_0:=zAe BK352.out 0
         have hfz19_1:=zAe BK352.out 1
         go_wp2
         go_loopg [6] k1 (fun kq v6 w' => ∃ (x4_2 : List Int) (x6_2 : Int),v6 = .int .i64 x6_2 ∧ Aside0 (zAy.l1 kq x4_2 x5_1 x6_2 l0_0 a0_1 = some r) ∧ Aside0 (kq ≤ k1) ∧ Aside0 (Kd.R (Kd.int .i64) 3 w' w.heap.size (fun _ => True) (.slice (some ⟨go8,0,none⟩) x4_1.length co8) x4_2) ∧ Aside0 (w'.heap[gb352]? = some (.cells #[(.slice A0_0 l0_0.length c0_0),.int .i64 a0_1] 30 (0,0))) ∧ Aside0 (Below w.heap.size w w'))
         case atStart => exact ⟨(x4_1),(0),(by first | rfl | (simp; done) | (simp [*]; done)),H',⟨Nat.le_refl _⟩,⟨by (try simp only [hl4_1]); (with_reducible repeat (first | apply Kd.R_alloc | apply Kd.R_drewN | apply Kd.R_drew)); exact HO_4.out⟩,⟨by (try simp only [hl4_1]); (with_reducible repeat (first | apply zAb | apply zAd | apply zAa)); exact BK352.out⟩,⟨by repeat (first | (with_reducible first | exact HB.out | apply zAg | apply zAc | apply zAi | refine zAh ?_ GE352.out) | exact HB.out)⟩⟩
         case round =>
          clear H'
          try clear c1
          try clear c2
          try clear p2
          try clear c3
          try clear c4
          try clear c4b0
          try clear c4b1
          try clear c5
          try clear c5b0
          try clear c5b1
          try clear c6
          try clear c6b0
          try clear c7
          try clear c7b0
          try clear p8
          try clear q8
          try clear hx8
          try clear hf8
          try clear c18
          try clear c18b0
          try clear hcz10_0
          try clear hcz10_1
          try clear hcz12_0
          try clear hcz12_1
          try clear hcz15_0
          try clear hcz15_1
          try clear hcz19_0
          try clear hcz19_1
          try clear hfz10_0
          try clear hfz10_1
          try clear hfz12_0
          try clear hfz12_1
          try clear hfz15_0
          try clear hfz15_1
          try clear hfz19_0
          try clear hfz19_1
          try clear hx8_0
          try clear p2
          try clear p8
          try clear q8
          obtain ⟨x4_2,x6_2,rfl,HA,HK2,HO_4,BK352,HB⟩:=hrel
          have hl4_2:=(Kd.zAV HO_4.out).1
          rw [hl4_2] at HO_4
          (try simp only [hl4_2])
          (try simp only [hl4_2] at BK352)
          cases gk with
          | zero => exact absurd HA.out (by simp [zAy.l1])
          | succ k2 =>
           have H:=HA.out
           clear HA
           simp only [zAy.l1] at H
           by_cases c20 : 0 ≤ x5_1
           ·rw [if_pos c20] at H
            have c20b0 : decide (0 ≤ x5_1) = true:=decide_eq_true c20
            clear c20
            by_cases c21 : x5_1 < (l0_0.length : Int)
            ·rw [if_pos c21] at H
             have c21b0 : decide (x5_1 < (l0_0.length : Int)) = true:=decide_eq_true c21
             clear c21
             by_cases c22 : x6_2 < (((rd_T24 l0_0 x5_1).f4).length : Int)
             ·rw [if_pos c22] at H
              have c22b0 : decide (x6_2 < (((rd_T24 l0_0 x5_1).f4).length : Int)) = true:=decide_eq_true c22
              clear c22
              by_cases c23 : 0 ≤ x6_2
              ·rw [if_pos c23] at H
               have c23b0 : decide (0 ≤ x6_2) = true:=decide_eq_true c23
               clear c23
               by_cases c24 : 0 ≤ (rd ((rd_T24 l0_0 x5_1).f4) x6_2)
               ·rw [if_pos c24] at H
                have c24b0 : decide (0 ≤ (rd ((rd_T24 l0_0 x5_1).f4) x6_2)) = true:=decide_eq_true c24
                clear c24
                by_cases c25 : (rd ((rd_T24 l0_0 x5_1).f4) x6_2) < (x4_2.length : Int)
                ·rw [if_pos c25] at H
                 have c25b0 : decide ((rd ((rd_T24 l0_0 x5_1).f4) x6_2) < (x4_2.length : Int)) = true:=decide_eq_true c25
                 clear c25
                 obtain ⟨y361,hy361⟩ : ∃ y_ : List Int,y_ = (x4_2.set ((rd ((rd_T24 l0_0 x5_1).f4) x6_2) : Int).toNat x5_1):=⟨_,rfl⟩
                 replace H : (zAy.l1 k2 y361 x5_1 (wrap64 (x6_2 + 1)) l0_0 a0_1) = some r:=by first | (rw [hy361]; with_reducible exact H) | (have H2_:=(Option.bind_some _ _).symm.trans H; rw [hy361]; with_reducible exact H2_) | (have H2_:=(Option.bind_some _ _).symm.trans H; with_reducible exact H2_) | with_reducible exact H | (rw [hy361]; exact H) | exact H
                 have Ny361:=Aside0.mk hy361
                 clear hy361
                 have H':=Aside0.mk H
                 clear H
                 have hcz27_0 : wr.cell? ⟨gb352,0,none⟩ = some (.slice A0_0 l0_0.length c0_0):=(zAf BK352.out 0).trans rfl
                 have hcz27_1 : wr.cell? ⟨gb352,1,none⟩ = some (.int .i64 a0_1):=(zAf BK352.out 1).trans rfl
                 have hfz27_0:=zAe BK352.out 0
                 have hfz27_1:=zAe BK352.out 1
                 have p358 : 0 ≤ (x5_1 : Int):=of_decide_eq_true (by first | (with_reducible assumption) | assumption)
                 have q358 : x5_1 < (l0_0.length : Int):=of_decide_eq_true (by first | (with_reducible assumption) | assumption)
                 obtain ⟨ad358,A358_4,c358_4,e358,hx358_0,hx358_1,hx358_2,hx358_3,hx358_4,hl358_4,hi358_4⟩:=at_T24 HR0_0.out x5_1 p358 q358
                 cases e358
                 replace hx358_0:=(HB.out.cell (World.block_lt_of_cell? w _ hx358_0)).trans hx358_0
                 replace hx358_1:=(HB.out.cell (World.block_lt_of_cell? w _ hx358_1)).trans hx358_1
                 replace hx358_2:=(HB.out.cell (World.block_lt_of_cell? w _ hx358_2)).trans hx358_2
                 replace hx358_3:=(HB.out.cell (World.block_lt_of_cell? w _ hx358_3)).trans hx358_3
                 replace hx358_4:=(HB.out.cell (World.block_lt_of_cell? w _ hx358_4)).trans hx358_4
                 have HR358_4:=Aside0.mk hi358_4
                 have HC358_4:=Aside0.mk hl358_4
                 clear hi358_4 hl358_4
                 replace p358:=eq_true p358
                 replace q358:=eq_true q358
                 have p359 : 0 ≤ (x5_1 : Int):=of_decide_eq_true (by first | (with_reducible assumption) | assumption)
                 have q359 : x5_1 < (l0_0.length : Int):=of_decide_eq_true (by first | (with_reducible assumption) | assumption)
                 obtain ⟨ad359,A359_4,c359_4,e359,hx359_0,hx359_1,hx359_2,hx359_3,hx359_4,hl359_4,hi359_4⟩:=at_T24 HR0_0.out x5_1 p359 q359
                 obtain rfl : ad358 = ad359:=(by injection e359)
                 replace hx359_0:=(HB.out.cell (World.block_lt_of_cell? w _ hx359_0)).trans hx359_0
                 replace hx359_1:=(HB.out.cell (World.block_lt_of_cell? w _ hx359_1)).trans hx359_1
                 replace hx359_2:=(HB.out.cell (World.block_lt_of_cell? w _ hx359_2)).trans hx359_2
                 replace hx359_3:=(HB.out.cell (World.block_lt_of_cell? w _ hx359_3)).trans hx359_3
                 replace hx359_4:=(HB.out.cell (World.block_lt_of_cell? w _ hx359_4)).trans hx359_4
                 have HR359_4:=Aside0.mk hi359_4
                 have HC359_4:=Aside0.mk hl359_4
                 clear hi359_4 hl359_4
                 replace p359:=eq_true p359
                 replace q359:=eq_true q359
                 have ea_:=Option.some.inj (hx358_4.symm.trans hx359_4)
                 injection ea_ with ea_ en_ ec_
                 subst ea_
                 subst ec_
                 clear en_
                 have p360 : 0 ≤ (x6_2 : Int):=of_decide_eq_true (by first | (with_reducible assumption) | assumption)
                 have q360 : x6_2 < (((rd_T24 l0_0 x5_1).f4).length : Int):=of_decide_eq_true (by first | (with_reducible assumption) | assumption)
                 obtain ⟨ad360,e360,hx360_0⟩:=Kd.at_int HR359_4.out x6_2 p360 q360
                 cases e360
                 replace hx360_0:=(HB.out.cell (World.block_lt_of_cell? w _ hx360_0)).trans hx360_0
                 replace p360:=eq_true p360
                 replace q360:=eq_true q360
                 have p26 : 0 ≤ ((rd ((rd_T24 l0_0 x5_1).f4) x6_2) : Int):=of_decide_eq_true (by first | (with_reducible assumption) | assumption)
                 have q26 : ((rd ((rd_T24 l0_0 x5_1).f4) x6_2) : Int) < ((x4_2.length : Int) : Int):=of_decide_eq_true (by first | (with_reducible assumption) | assumption)
                 obtain ⟨hx26_0,hf26_0⟩:=Kd.R_celln 0 HO_4.out ((rd ((rd_T24 l0_0 x5_1).f4) x6_2) : Int) p26 q26
                 replace p26:=eq_true p26
                 replace q26:=eq_true q26
                 have HP28:=Kd.R_putg HO_4.out ((rd ((rd_T24 l0_0 x5_1).f4) x6_2) : Int) x5_1
                 go_wp2_with (first | ((with_reducible refine zBt (t:=3) (p:=48) rfl ?_); refine zBo (t:=3) (p:=48) (v:=?vo_w29) (w1:=(wr.setCell ⟨go8,((rd ((rd_T24 l0_0 x5_1).f4) x6_2) : Int).toNat,none⟩ (.int .i64 x5_1))) ?hg ?ho ?hn ?hr ?_; (case ho => rfl); (case hg => rfl); (case hn => rfl); (case hr => first | (go_simp; done) | (go_simp; rfl)); intro w29 hw; have hg : wr.grownBy w29 (some go8):=(by rw [hw]; exact HP28.2); have hp_ : Kd.R (Kd.int .i64) 3 w29 w.heap.size (fun _ => True) (.slice (some ⟨go8,0,none⟩) x4_2.length co8) y361:=(by rw [hw,Ny361.out]; exact HP28.1); clear HP28; have n0_:=Aside0.mk (hp_); have n1_:=Aside0.mk (zAU (g:=gb352) (o:=.cells #[.slice (some ad358) l0_0.length c0_0,.int .i64 a0_1] 30 (0,0)) (by (with_reducible repeat (first | apply zAb | apply zAd | apply zAa)); exact BK352.out) hg (Kd.R_ne HO_4.out BK352.out (by decide))); have n2_:=Aside0.mk ((by rw [hw]; exact zAh (HB.out) GB8.out : Below w.heap.size w w29)); clear HO_4; clear BK352; clear HB; have HO_4:=n0_; have BK352:=n1_; have HB:=n2_; clear n0_ n1_ n2_; clear hg hw hp_))
                 (try simp only [← hl4_2])
                 go_roundg k2
                 case measure => have:=HK1.out; have:=HK2.out; omega
                 case rel => exact ⟨(y361),(wrap64 (x6_2 + 1)),(by first | rfl | (simp; done) | (simp [*]; done)),H',⟨by have:=HK1.out; have:=HK2.out; omega⟩,⟨by (try simp only [hl4_1]); (try simp only [hl4_2]); (with_reducible repeat (first | apply Kd.R_alloc | apply Kd.R_drewN | apply Kd.R_drew)); exact HO_4.out⟩,⟨by (try simp only [hl4_1]); (try simp only [hl4_2]); (with_reducible repeat (first | apply zAb | apply zAd | apply zAa)); exact BK352.out⟩,⟨by repeat (first | (with_reducible first | exact HB.out | apply zAg | apply zAc | apply zAi | refine zAh ?_ GE352.out) | exact HB.out)⟩⟩
                ·rw [if_neg c25] at H
                 exact absurd H (by simp)
               ·rw [if_neg c24] at H
                exact absurd H (by simp)
              ·rw [if_neg c23] at H
               exact absurd H (by simp)
             ·rw [if_neg c22] at H
              have c22b0 : decide (x6_2 < (((rd_T24 l0_0 x5_1).f4).length : Int)) = false:=decide_eq_false c22
              clear c22
              have H':=Aside0.mk H
              clear H
              have hcz30_0 : wr.cell? ⟨gb352,0,none⟩ = some (.slice A0_0 l0_0.length c0_0):=(zAf BK352.out 0).trans rfl
              have hcz30_1 : wr.cell? ⟨gb352,1,none⟩ = some (.int .i64 a0_1):=(zAf BK352.out 1).trans rfl
              have hfz30_0:=zAe BK352.out 0
              have hfz30_1:=zAe BK352.out 1
              have p358 : 0 ≤ (x5_1 : Int):=of_decide_eq_true (by first | (with_reducible assumption) | assumption)
              have q358 : x5_1 < (l0_0.length : Int):=of_decide_eq_true (by first | (with_reducible assumption) | assumption)
              obtain ⟨ad358,A358_4,c358_4,e358,hx358_0,hx358_1,hx358_2,hx358_3,hx358_4,hl358_4,hi358_4⟩:=at_T24 HR0_0.out x5_1 p358 q358
              cases e358
              replace hx358_0:=(HB.out.cell (World.block_lt_of_cell? w _ hx358_0)).trans hx358_0
              replace hx358_1:=(HB.out.cell (World.block_lt_of_cell? w _ hx358_1)).trans hx358_1
              replace hx358_2:=(HB.out.cell (World.block_lt_of_cell? w _ hx358_2)).trans hx358_2
              replace hx358_3:=(HB.out.cell (World.block_lt_of_cell? w _ hx358_3)).trans hx358_3
              replace hx358_4:=(HB.out.cell (World.block_lt_of_cell? w _ hx358_4)).trans hx358_4
              have HR358_4:=Aside0.mk hi358_4
              have HC358_4:=Aside0.mk hl358_4
              clear hi358_4 hl358_4
              replace p358:=eq_true p358
              replace q358:=eq_true q358
              go_wp2
              (try simp only [← hl4_1,← hl4_2])
              go_roundg k2
              case measure => have:=HK1.out; have:=HK2.out; omega
              case rel => exact ⟨(x4_2),(wrap64 (x5_1 + 1)),(by first | rfl | (simp; done) | (simp [*]; done)),H',⟨by have:=HK1.out; have:=HK2.out; omega⟩,⟨by (try simp only [hl4_1]); (try simp only [hl4_2]); (with_reducible repeat (first | apply Kd.R_alloc | apply Kd.R_drewN | apply Kd.R_drew)); exact HO_4.out⟩,⟨by (try simp only [hl4_1]); (try simp only [hl4_2]); (with_reducible repeat (first | apply zAb | apply zAd | apply zAa)); exact BK352.out⟩,⟨by repeat (first | (with_reducible first | exact HB.out | apply zAg | apply zAc | apply zAi | refine zAh ?_ GE352.out) | exact HB.out)⟩⟩
            ·rw [if_neg c21] at H
             exact absurd H (by simp)
           ·rw [if_neg c20] at H
            exact absurd H (by simp)
        ·rw [if_neg c18] at H
         have c18b0 : decide (x5_1 < (l0_0.length : Int)) = false:=decide_eq_false c18
         clear c18
         obtain rfl:=Option.some.inj H
         have hcz31_0 : wr.cell? ⟨gb352,0,none⟩ = some (.slice A0_0 l0_0.length c0_0):=(zAf BK352.out 0).trans rfl
         have hcz31_1 : wr.cell? ⟨gb352,1,none⟩ = some (.int .i64 a0_1):=(zAf BK352.out 1).trans rfl
         have hfz31_0:=zAe BK352.out 0
         have hfz31_1:=zAe BK352.out 1
         go_wp2
         go_ret
         exact ⟨_,by first | rfl | (simp [zAo,zAn] <;> rfl) | (simp [*,zAo,zAn] <;> rfl),by (with_reducible repeat (first | apply Kd.R_alloc | apply Kd.R_drewN | apply Kd.R_drew)); exact HO_4.out,by repeat (first | (with_reducible first | exact HB.out | apply zAg | apply zAc | apply zAi | refine zAh ?_ GE352.out) | exact HB.out)⟩
     ·rw [if_neg c7] at H
      exact absurd H (by simp)
    ·rw [if_neg c6] at H
     exact absurd H (by simp)
   ·rw [if_neg c5] at H
    exact absurd H (by simp)
  ·rw [if_neg c4] at H
   exact absurd H (by simp)
 ·replace c3:=Bool.eq_false_iff.mpr c3
  subst c3
  have H1 : (some ([] : List Int)) = some r:=by rw [if_neg (show ¬ (false = true) by decide)] at H; exact H
  clear H
  have H:=H1
  clear H1
  obtain rfl:=Option.some.inj H
  go_enter Try.func24,Try.ntmps24
  go_wp2_with (first | ((with_reducible refine zAM (N:=1) rfl ?_); refine zAL ?hg (N:=1) ?hd (cs:=#[.slice A0_0 l0_0.length c0_0,.int .i64 a0_1]) (t:=30) ?hr ?_; (case hd => rfl); (case hg => rfl); (case hr => first | (go_simp; done) | (go_simp; rfl)); intro gb352 hg w32 hbox hb; have n0_:=Aside0.mk (zAm (by repeat (first | (with_reducible first | exact HB.out | apply zAg | apply zAc | apply zAi) | exact HB.out)) hb); have n1_:=Aside0.mk (hbox); have n2_:=Aside0.mk ((by rw [hg]; exact (zAp (by repeat (first | (with_reducible first | exact HB.out | apply zAg | apply zAc | apply zAi) | exact HB.out))) : w.heap.size ≤ gb352)); have n3_:=Aside0.mk ((by rw [hg]; exact (zAp (by repeat (first | (with_reducible first | exact HB.out | apply zAg | apply zAc | apply zAi) | exact HB.out))) : w.heap.size ≤ gb352)); clear HB; have HB:=n0_; have BK352:=n1_; have GW352:=n2_; have GE352:=n3_; clear n0_ n1_ n2_ n3_; clear hb hbox hg; have hcz33_0 : w32.cell? ⟨gb352,0,none⟩ = some (.slice A0_0 l0_0.length c0_0):=(zAf BK352.out 0).trans rfl; have hcz33_1 : w32.cell? ⟨gb352,1,none⟩ = some (.int .i64 a0_1):=(zAf BK352.out 1).trans rfl; have hfz33_0:=zAe BK352.out 0; have hfz33_1:=zAe BK352.out 1) | ((with_reducible refine zAA (f:=20) rfl ?_); refine goesL_ (some 8) rfl rfl Try.func20 (by kernel_rfl) rfl #[.agg #[.slice A0_0 l0_0.length c0_0,.int .i64 a0_1]] rfl (by (try simp only [List.map_toArray,List.map_cons,List.map_nil]); first | done | rfl | (simp only [List.length_drop,List.length_take]; rfl)) ?_; (with_reducible refine (zAq.calls k _ _ l0_0 a0_1 false _ ?side1 ?side2 A2.out).mono ?_); (case side1 => repeat (first | exact (Kd.C_below HR0_0.out HB.out) | (with_reducible refine Kd.C_alloc ?_ _) | (with_reducible refine Kd.C_drewN ?_ _) | (with_reducible refine Kd.C_drew ?_))); (case side2 => exact HC0_0.out); rintro e w34 ⟨rfl,hb⟩; refine ⟨_,rfl,?_⟩; have n0_:=Aside0.mk (zAs (g:=gb352) (o:=.cells #[.slice A0_0 l0_0.length c0_0,.int .i64 a0_1] 30 (0,0)) (by (with_reducible repeat (first | apply zAb | apply zAd | apply zAa)); exact BK352.out) hb); have n1_:=Aside0.mk (zAm (by repeat (first | (with_reducible first | exact HB.out | apply zAg | apply zAc | apply zAi | refine zAh ?_ GE352.out) | exact HB.out)) hb); clear BK352; clear HB; have BK352:=n0_; have HB:=n1_; clear n0_ n1_; (try clear hb); (try clear hb2); (try clear hk); (try clear hi)))
  go_ret
  exact ⟨_,by first | rfl | (simp [zAo,zAn] <;> rfl) | (simp [*,zAo,zAn] <;> rfl),by first | exact Kd.R_nil _ _ _ _ _ | exact Kd.N_nil _ _ _ _ _ | exact Kd.V_nil _ _ _ _ _ | exact Kd.Q_nil _ _ _ _ _ | exact Kd.S_nil _ _ _ _ _,by repeat (first | (with_reducible first | exact HB.out | apply zAg | apply zAc | apply zAi | refine zAh ?_ GE352.out) | exact HB.out)⟩
end Go.Proofs.Ytpggidmpkhmijaa.P
