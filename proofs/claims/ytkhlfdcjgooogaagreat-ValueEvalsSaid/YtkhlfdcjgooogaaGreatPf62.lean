import Derived.Test.YtkhlfdcjgooogaaGreatPf103
import Derived.Test.YtkhlfdcjgooogaaGreatTrJ
set_option maxRecDepth 100000
set_option maxHeartbeats 16000000
set_option linter.unusedVariables false
set_option linter.unusedSimpArgs false
set_option linter.unusedSectionVars false
namespace Go.Proofs.YtkhlfdcjgooogaaGreat.P
open Go.RowKit Go.Proofs.YtkhlfdcjgooogaaGreatW.PrintWords Go.Proofs.YtkhlfdcjgooogaaGreatW.PrintLast Go.Proofs.YtkhlfdcjgooogaaGreatW.PrintMore
attribute [local go_sem] zAP zAQ max_two min_two zAK zAJ zAS zAR
mutual
def zAm.l0 : Nat → List Int → List (S66) → Int → Int → Option (List Int)
 | 0,_,_,_,_ => none
 | k + 1,x3,x20,x21,x22 => if x22 < x21 then (if 0 ≤ x22 then (if x22 < (x20.length : Int) then (zAm.l1 k x3 x22 x20 x21 x22 ((rd_T66 x20 x22).f4) (((rd_T66 x20 x22).f4).length : Int) 0) else (none)) else (none)) else (some x3)
def zAm.l1 : Nat → List Int → Int → List (S66) → Int → Int → List Int → Int → Int → Option (List Int)
 | 0,_,_,_,_,_,_,_,_ => none
 | k + 1,x3,x4,x20,x21,x22,x28,x29,x30 => if x30 < x29 then (if 0 ≤ x30 then (if x30 < (x28.length : Int) then (if 0 ≤ (rd x28 x30) then (if (rd x28 x30) < (x3.length : Int) then (zAm.l1 k (x3.set ((rd x28 x30) : Int).toNat x4) x4 x20 x21 x22 x28 x29 (wrap64 (x30 + 1))) else (none)) else (none)) else (none)) else (none)) else (zAm.l0 k x3 x20 x21 (wrap64 (x22 + 1)))
end
def zAm.f (k : Nat) (l0_0 : List (S66)) (a0_1 : Int) : Option (List Int):=(zAE.f l0_0 a0_1).bind fun t189 => (if t189 = true then (if 0 ≤ (l0_0.length : Int) then (if ((l0_0.length : Int) : Int).toNat ≤ 35184372088832 then ((some (List.replicate ((l0_0.length : Int) : Int).toNat 0 : List Int)).bind fun y190 => (if 0 ≤ a0_1 then (if a0_1 < (y190.length : Int) then (zAm.l0 k (y190.set (a0_1 : Int).toNat (-1)) l0_0 (l0_0.length : Int) 0) else (none)) else (none))) else (none)) else (none)) else (some ([] : List Int)))
theorem zAm.mono_l : ∀ k,(∀ y0 y1 y2 y3,LeO (zAm.l0 k y0 y1 y2 y3) (zAm.l0 (k + 1) y0 y1 y2 y3)) ∧ (∀ y0 y1 y2 y3 y4 y5 y6 y7,LeO (zAm.l1 k y0 y1 y2 y3 y4 y5 y6 y7) (zAm.l1 (k + 1) y0 y1 y2 y3 y4 y5 y6 y7))
 | 0 => ⟨fun _ _ _ _ r h => by simp [zAm.l0] at h,fun _ _ _ _ _ _ _ _ r h => by simp [zAm.l1] at h⟩
 | k + 1 => by
  obtain ⟨ih0,ih1⟩:=zAm.mono_l k
  refine ⟨?_,?_⟩
  ·intro y0 y1 y2 y3
   unfold zAm.l0
   repeat' first
   | (with_reducible exact ih0 _ _ _ _)
   | (with_reducible exact ih1 _ _ _ _ _ _ _ _)
   | (with_reducible exact LeO.refl _)
   | (with_reducible exact LeO.none _)
   | (with_reducible refine LeO.ite ?_ ?_)
   | (with_reducible refine LeO.bind ?_ (fun _ => ?_))
   | exact ih0 _ _ _ _
   | exact ih1 _ _ _ _ _ _ _ _
   | exact LeO.none _
   | refine LeO.ite ?_ ?_
   | refine LeO.bind ?_ (fun _ => ?_)
  ·intro y0 y1 y2 y3 y4 y5 y6 y7
   unfold zAm.l1
   repeat' first
   | (with_reducible exact ih0 _ _ _ _)
   | (with_reducible exact ih1 _ _ _ _ _ _ _ _)
   | (with_reducible exact LeO.refl _)
   | (with_reducible exact LeO.none _)
   | (with_reducible refine LeO.ite ?_ ?_)
   | (with_reducible refine LeO.bind ?_ (fun _ => ?_))
   | exact ih0 _ _ _ _
   | exact ih1 _ _ _ _ _ _ _ _
   | exact LeO.none _
   | refine LeO.ite ?_ ?_
   | refine LeO.bind ?_ (fun _ => ?_)
theorem zAm.mono : ∀ a0 a1 k,LeO (zAm.f k a0 a1) (zAm.f (k + 1) a0 a1):=by
 intro a0 a1 k
 obtain ⟨ih0,ih1⟩:=zAm.mono_l k
 unfold zAm.f
 repeat' first
   | (with_reducible exact ih0 _ _ _ _)
   | (with_reducible exact ih1 _ _ _ _ _ _ _ _)
   | (with_reducible exact LeO.refl _)
   | (with_reducible exact LeO.none _)
   | (with_reducible refine LeO.ite ?_ ?_)
   | (with_reducible refine LeO.bind ?_ (fun _ => ?_))
   | exact ih0 _ _ _ _
   | exact ih1 _ _ _ _ _ _ _ _
   | exact LeO.none _
   | refine LeO.ite ?_ ?_
   | refine LeO.bind ?_ (fun _ => ?_)
theorem zAm.calls (k : Nat) (A0_0 : Option Addr) (c0_0 : Nat) (l0_0 : List (S66)) (a0_1 : Int) (r : List Int) (w : World) (hr0_0 : Kd.C k66 w A0_0 l0_0.length l0_0) (hc0_0 : l0_0.length ≤ c0_0) (h : zAm.f k l0_0 a0_1 = some r) :
  Calls Tryz.prog 62 #[.agg #[.slice A0_0 l0_0.length c0_0,.int .i64 a0_1]] w fun e w' => ∃ v0_ : Value,e = .returned (v0_) ∧ Kd.R (Kd.int .i64) 3 w' w.heap.size (fun _ => True) v0_ r ∧ Below w.heap.size w w':=by
 have hu24:=Tryz.underlying24
 have hu66:=Tryz.underlying66
 have HR0_0:=Aside0.mk hr0_0
 have HC0_0:=Aside0.mk hc0_0
 clear hr0_0 hc0_0
 have HB:=Aside0.mk (Below.refl w.heap.size w)
 have H : ((zAE.f l0_0 a0_1).bind fun t189 => (if t189 = true then (if 0 ≤ (l0_0.length : Int) then (if ((l0_0.length : Int) : Int).toNat ≤ 35184372088832 then ((some (List.replicate ((l0_0.length : Int) : Int).toNat 0 : List Int)).bind fun y190 => (if 0 ≤ a0_1 then (if a0_1 < (y190.length : Int) then (zAm.l0 k (y190.set (a0_1 : Int).toNat (-1)) l0_0 (l0_0.length : Int) 0) else (none)) else (none))) else (none)) else (none)) else (some ([] : List Int)))) = some r:=h
 clear h
 replace H:=Option.bind_eq_some_iff.mp H
 obtain ⟨t189,A20,H⟩:=H
 replace H : (if t189 = true then (if 0 ≤ (l0_0.length : Int) then (if ((l0_0.length : Int) : Int).toNat ≤ 35184372088832 then ((some (List.replicate ((l0_0.length : Int) : Int).toNat 0 : List Int)).bind fun y190 => (if 0 ≤ a0_1 then (if a0_1 < (y190.length : Int) then (zAm.l0 k (y190.set (a0_1 : Int).toNat (-1)) l0_0 (l0_0.length : Int) 0) else (none)) else (none))) else (none)) else (none)) else (some ([] : List Int))) = some r:=H
 have A2:=Aside0.mk A20
 clear A20
 by_cases c3 : t189 = true
 ·subst c3
  have H1 : (if 0 ≤ (l0_0.length : Int) then (if ((l0_0.length : Int) : Int).toNat ≤ 35184372088832 then ((some (List.replicate ((l0_0.length : Int) : Int).toNat 0 : List Int)).bind fun y190 => (if 0 ≤ a0_1 then (if a0_1 < (y190.length : Int) then (zAm.l0 k (y190.set (a0_1 : Int).toNat (-1)) l0_0 (l0_0.length : Int) 0) else (none)) else (none))) else (none)) else (none)) = some r:=by rw [if_pos rfl] at H; exact H
  clear H
  have H:=H1
  clear H1
  by_cases c4 : 0 ≤ (l0_0.length : Int)
  ·rw [if_pos c4] at H
   have c4b0:=eq_true c4
   have c4b1 : decide (0 ≤ (l0_0.length : Int)) = true:=decide_eq_true c4
   clear c4
   by_cases c5 : ((l0_0.length : Int) : Int).toNat ≤ 35184372088832
   ·rw [if_pos c5] at H
    have c5b0:=eq_true c5
    have c5b1 : decide (((l0_0.length : Int) : Int).toNat ≤ 35184372088832) = true:=decide_eq_true c5
    clear c5
    obtain ⟨y190,hy190⟩ : ∃ y_ : List Int,y_ = (List.replicate ((l0_0.length : Int) : Int).toNat 0):=⟨_,rfl⟩
    replace H : (if 0 ≤ a0_1 then (if a0_1 < (y190.length : Int) then (zAm.l0 k (y190.set (a0_1 : Int).toNat (-1)) l0_0 (l0_0.length : Int) 0) else (none)) else (none)) = some r:=by first | (rw [hy190]; with_reducible exact H) | (have H2_:=(Option.bind_some _ _).symm.trans H; rw [hy190]; with_reducible exact H2_) | (have H2_:=(Option.bind_some _ _).symm.trans H; with_reducible exact H2_) | with_reducible exact H | (rw [hy190]; exact H) | exact H
    have Ny190:=Aside0.mk hy190
    clear hy190
    by_cases c6 : 0 ≤ a0_1
    ·rw [if_pos c6] at H
     have c6b0 : decide (0 ≤ a0_1) = true:=decide_eq_true c6
     clear c6
     by_cases c7 : a0_1 < (y190.length : Int)
     ·rw [if_pos c7] at H
      have c7b0 : decide (a0_1 < (y190.length : Int)) = true:=decide_eq_true c7
      clear c7
      obtain ⟨y193,hy193⟩ : ∃ y_ : List Int,y_ = (y190.set (a0_1 : Int).toNat (-1)):=⟨_,rfl⟩
      replace H : (zAm.l0 k y193 l0_0 (l0_0.length : Int) 0) = some r:=by first | (rw [hy193]; with_reducible exact H) | (have H2_:=(Option.bind_some _ _).symm.trans H; rw [hy193]; with_reducible exact H2_) | (have H2_:=(Option.bind_some _ _).symm.trans H; with_reducible exact H2_) | with_reducible exact H | (rw [hy193]; exact H) | exact H
      have Ny193:=Aside0.mk hy193
      clear hy193
      have H':=Aside0.mk H
      clear H
      go_enter Tryz.func62,Tryz.ntmps62
      go_wp2_with (first | ((with_reducible refine zAZ (N:=1) rfl ?_); refine zBa ?hg (N:=1) ?hd (cs:=#[.slice A0_0 l0_0.length c0_0,.int .i64 a0_1]) (t:=24) ?hr ?_; (case hd => rfl); (case hg => rfl); (case hr => first | (go_simp; done) | (go_simp; rfl)); intro gb188 hg w9 hbox hb; have n0_:=Aside0.mk (zAd (by repeat (first | (with_reducible first | exact HB.out | apply zAa | apply zAf | apply zAi) | exact HB.out)) hb); have n1_:=Aside0.mk (hbox); have n2_:=Aside0.mk ((by rw [hg]; exact (zAy (by repeat (first | (with_reducible first | exact HB.out | apply zAa | apply zAf | apply zAi) | exact HB.out))) : w.heap.size ≤ gb188)); have n3_:=Aside0.mk ((by rw [hg]; exact (zAy (by repeat (first | (with_reducible first | exact HB.out | apply zAa | apply zAf | apply zAi) | exact HB.out))) : w.heap.size ≤ gb188)); clear HB; have HB:=n0_; have BK188:=n1_; have GW188:=n2_; have GE188:=n3_; clear n0_ n1_ n2_ n3_; clear hb hbox hg; have hcz10_0 : w9.cell? ⟨gb188,0,none⟩ = some (.slice A0_0 l0_0.length c0_0):=(zAh BK188.out 0).trans rfl; have hcz10_1 : w9.cell? ⟨gb188,1,none⟩ = some (.int .i64 a0_1):=(zAh BK188.out 1).trans rfl; have hfz10_0:=zAc BK188.out 0; have hfz10_1:=zAc BK188.out 1) | ((with_reducible refine zAF (f:=55) rfl ?_); refine goesL_ (some 9) rfl rfl Tryz.func55 (by kernel_rfl) rfl #[.agg #[.slice A0_0 l0_0.length c0_0,.int .i64 a0_1]] rfl (by (try simp only [List.map_toArray,List.map_cons,List.map_nil]); first | done | rfl | (simp only [List.length_drop,List.length_take]; rfl)) ?_; (with_reducible refine (zAE.calls _ _ l0_0 a0_1 true _ ?side1 ?side2 A2.out).mono ?_); (case side1 => repeat (first | exact (Kd.C_below HR0_0.out HB.out) | (with_reducible refine Kd.C_alloc ?_ _) | (with_reducible refine Kd.C_drewN ?_ _) | (with_reducible refine Kd.C_drew ?_))); (case side2 => exact HC0_0.out); rintro e w11 ⟨rfl,hb⟩; refine ⟨_,rfl,?_⟩; have n0_:=Aside0.mk (zAe (g:=gb188) (o:=.cells #[.slice A0_0 l0_0.length c0_0,.int .i64 a0_1] 24 (0,0)) (by (with_reducible repeat (first | apply zAo | apply zAl | apply zAj)); exact BK188.out) hb); have n1_:=Aside0.mk (zAd (by repeat (first | (with_reducible first | exact HB.out | apply zAa | apply zAf | apply zAi | refine zAu ?_ GE188.out) | exact HB.out)) hb); clear BK188; clear HB; have BK188:=n0_; have HB:=n1_; clear n0_ n1_; (try clear hb); (try clear hb2); (try clear hk); (try clear hi); have hcz12_0 : w11.cell? ⟨gb188,0,none⟩ = some (.slice A0_0 l0_0.length c0_0):=(zAh BK188.out 0).trans rfl; have hcz12_1 : w11.cell? ⟨gb188,1,none⟩ = some (.int .i64 a0_1):=(zAh BK188.out 1).trans rfl; have hfz12_0:=zAc BK188.out 0; have hfz12_1:=zAc BK188.out 1) | ((with_reducible refine zAZ (N:=14) rfl ?_); refine Kd.R_make (Kd.int .i64) _ 3 rfl (N:=14) rfl 64 _ _ rfl (l0_0.length : Int) rfl rfl Tryz.underlying64 (.int .i64 0) 8 info3 rfl (by decide) (by omega) 0 (ok:=fun _ => True) (okp:=fun _ => True) rfl (fun _ hk => hk) trivial (of_decide_eq_true (by first | (with_reducible assumption) | assumption)) (Nat.le_trans (Nat.mul_le_mul_right _ (of_decide_eq_true (by first | (with_reducible assumption) | assumption) : (l0_0.length : Int).toNat ≤ 35184372088832)) (by omega)) (Below.refl _ _) (Nat.le_refl _) ?_; intro v191 w13 ho14 hb hg_ hnew_; clear hg_ hnew_; (first | rw [← Ny190.out] at ho14 | (simp only [Int.reduceToNat] at ho14; rw [← Ny190.out] at ho14)); have n0_:=Aside0.mk (Kd.R_lower ho14 (zAy (by repeat (first | (with_reducible first | exact HB.out | apply zAa | apply zAf | apply zAi | refine zAu ?_ GE188.out) | exact HB.out)))); have n1_:=Aside0.mk (zAe (g:=gb188) (o:=.cells #[.slice A0_0 l0_0.length c0_0,.int .i64 a0_1] 24 (0,0)) (by (with_reducible repeat (first | apply zAo | apply zAl | apply zAj)); exact BK188.out) hb); have n2_:=Aside0.mk (zAd (by repeat (first | (with_reducible first | exact HB.out | apply zAa | apply zAf | apply zAi | refine zAu ?_ GE188.out) | exact HB.out)) hb); clear BK188; clear HB; have HO192:=n0_; have BK188:=n1_; have HB:=n2_; clear n0_ n1_ n2_; clear hb ho14; have hcz15_0 : w13.cell? ⟨gb188,0,none⟩ = some (.slice A0_0 l0_0.length c0_0):=(zAh BK188.out 0).trans rfl; have hcz15_1 : w13.cell? ⟨gb188,1,none⟩ = some (.int .i64 a0_1):=(zAh BK188.out 1).trans rfl; have hfz15_0:=zAc BK188.out 0; have hfz15_1:=zAc BK188.out 1; have p8 : 0 ≤ (a0_1 : Int):=of_decide_eq_true (by first | (with_reducible assumption) | assumption); have q8 : (a0_1 : Int) < ((y190.length : Int) : Int):=of_decide_eq_true (by first | (with_reducible assumption) | assumption); obtain ⟨go8,co8,eo8,gb8,gl8,cl8,HG8⟩:=Kd.R_form HO192.out (by omega); (first | cases eo8 | (injection eo8 with ea_ en_ ec_; (first | subst ea_ | (injection ea_ with ea_; subst ea_)); subst ec_; clear en_)); have GB8:=Aside0.mk gb8; have GG8:=Aside0.mk HG8; clear gb8 gl8 HG8; obtain ⟨hx8_0,hf8_0⟩:=Kd.R_celln 0 HO192.out (a0_1 : Int) p8 q8; replace p8:=eq_true p8; replace q8:=eq_true q8; obtain ⟨hy16_,hz16_⟩:=Kd.R_celln 0 HO192.out (a0_1 : Int) (of_decide_eq_true (by first | (with_reducible assumption) | assumption)) (of_decide_eq_true (by first | (with_reducible assumption) | assumption)); have HP16:=Kd.R_putg HO192.out (a0_1 : Int) (-1)) | ((with_reducible refine gate_store (t:=3) (p:=18) rfl ?_); refine store_event (t:=3) (p:=18) (v:=?vo_w17) (w1:=(w13.setCell ⟨go8,(a0_1 : Int).toNat,none⟩ (.int .i64 (-1)))) ?hg ?ho ?hn ?hr ?_; (case ho => rfl); (case hg => rfl); (case hn => rfl); (case hr => first | (go_simp; done) | (go_simp; rfl)); intro w17 hw; have hg : w13.grownBy w17 (some go8):=(by rw [hw]; exact HP16.2); have hp_ : Kd.R (Kd.int .i64) 3 w17 w.heap.size (fun _ => True) (.slice (some ⟨go8,0,none⟩) y190.length co8) y193:=(by rw [hw,Ny193.out]; exact HP16.1); clear HP16; have n0_:=Aside0.mk (zCf (g:=gb188) (o:=.cells #[.slice A0_0 l0_0.length c0_0,.int .i64 a0_1] 24 (0,0)) (by (with_reducible repeat (first | apply zAo | apply zAl | apply zAj)); exact BK188.out) hg (Kd.R_ne HO192.out BK188.out (by decide))); have n1_:=Aside0.mk (hp_); have n2_:=Aside0.mk ((by rw [hw]; exact zAu (HB.out) GB8.out : Below w.heap.size w w17)); clear BK188; clear HO192; clear HB; have BK188:=n0_; have HO192:=n1_; have HB:=n2_; clear n0_ n1_ n2_; clear hg hw hp_; have hcz18_0 : w17.cell? ⟨gb188,0,none⟩ = some (.slice A0_0 l0_0.length c0_0):=(zAh BK188.out 0).trans rfl; have hcz18_1 : w17.cell? ⟨gb188,1,none⟩ = some (.int .i64 a0_1):=(zAh BK188.out 1).trans rfl; have hfz18_0:=zAc BK188.out 0; have hfz18_1:=zAc BK188.out 1))
      go_loopg [22] k (fun kq v22 w' => ∃ (x3_1 : List Int) (x22_1 : Int),v22 = .int .i64 x22_1 ∧ Aside0 (zAm.l0 kq x3_1 l0_0 (l0_0.length : Int) x22_1 = some r) ∧ Aside0 (kq ≤ k) ∧ Aside0 (Kd.R (Kd.int .i64) 3 w' w.heap.size (fun _ => True) (.slice (some ⟨go8,0,none⟩) y190.length co8) x3_1) ∧ Aside0 (w'.heap[gb188]? = some (.cells #[(.slice A0_0 l0_0.length c0_0),.int .i64 a0_1] 24 (0,0))) ∧ Aside0 (Below w.heap.size w w'))
      case atStart => exact ⟨(y193),(0),(by first | rfl | (simp; done) | (simp [*]; done)),H',⟨Nat.le_refl _⟩,⟨by (with_reducible repeat (first | apply Kd.R_alloc | apply Kd.R_drewN | apply Kd.R_drew)); exact HO192.out⟩,⟨by (with_reducible repeat (first | apply zAo | apply zAl | apply zAj)); exact BK188.out⟩,⟨by repeat (first | (with_reducible first | exact HB.out | apply zAa | apply zAf | apply zAi | refine zAu ?_ GE188.out) | exact HB.out)⟩⟩
      case round =>
       clear H'
       try clear p2
       try clear c3
       try clear c4
       try clear c4b0
       try clear c4b1
       try clear c5
       try clear c5b0
       try clear c5b1
       try clear c6
       try clear c6b0
       try clear c7
       try clear c7b0
       try clear p8
       try clear q8
       try clear hx8
       try clear hf8
       try clear hcz10_0
       try clear hcz10_1
       try clear hcz12_0
       try clear hcz12_1
       try clear hcz15_0
       try clear hcz15_1
       try clear hcz18_0
       try clear hcz18_1
       try clear hfz10_0
       try clear hfz10_1
       try clear hfz12_0
       try clear hfz12_1
       try clear hfz15_0
       try clear hfz15_1
       try clear hfz18_0
       try clear hfz18_1
       try clear hx8_0
       try clear p8
       try clear q8
       obtain ⟨x3_1,x22_1,rfl,HA,HK1,HO_3,BK188,HB⟩:=hrel
       have hl3_1:=(Kd.zBA HO_3.out).1
       rw [hl3_1] at HO_3
       (try simp only [hl3_1])
       (try simp only [hl3_1] at BK188)
       cases gk with
       | zero => exact absurd HA.out (by simp [zAm.l0])
       | succ k1 =>
        have H:=HA.out
        clear HA
        simp only [zAm.l0] at H
        by_cases c19 : x22_1 < (l0_0.length : Int)
        ·rw [if_pos c19] at H
         have c19b0 : decide (x22_1 < (l0_0.length : Int)) = true:=decide_eq_true c19
         clear c19
         by_cases c20 : 0 ≤ x22_1
         ·rw [if_pos c20] at H
          have c20b0 : decide (0 ≤ x22_1) = true:=decide_eq_true c20
          clear c20
          by_cases c21 : x22_1 < (l0_0.length : Int)
          ·rw [if_pos c21] at H
           have c21b0 : decide (x22_1 < (l0_0.length : Int)) = true:=decide_eq_true c21
           clear c21
           have H':=Aside0.mk H
           clear H
           have p194 : 0 ≤ (x22_1 : Int):=of_decide_eq_true (by first | (with_reducible assumption) | assumption)
           have q194 : x22_1 < (l0_0.length : Int):=of_decide_eq_true (by first | (with_reducible assumption) | assumption)
           obtain ⟨ad194,A194_4,c194_4,e194,hx194_0,hx194_1,hx194_2,hx194_3,hx194_4,hl194_4,hi194_4⟩:=at_T66 HR0_0.out x22_1 p194 q194
           cases e194
           replace hx194_0:=(HB.out.cell (World.block_lt_of_cell? w _ hx194_0)).trans hx194_0
           replace hx194_1:=(HB.out.cell (World.block_lt_of_cell? w _ hx194_1)).trans hx194_1
           replace hx194_2:=(HB.out.cell (World.block_lt_of_cell? w _ hx194_2)).trans hx194_2
           replace hx194_3:=(HB.out.cell (World.block_lt_of_cell? w _ hx194_3)).trans hx194_3
           replace hx194_4:=(HB.out.cell (World.block_lt_of_cell? w _ hx194_4)).trans hx194_4
           have HR194_4:=Aside0.mk hi194_4
           have HC194_4:=Aside0.mk hl194_4
           clear hi194_4 hl194_4
           replace p194:=eq_true p194
           replace q194:=eq_true q194
           go_wp2_with (first | ((with_reducible refine zAZ (N:=5) rfl ?_); refine zBa ?hg (N:=5) ?hd (cs:=#[.int .i64 0,.int .i64 0,.int .i64 0,.string (⟨#[]⟩ : ByteArray),.slice none 0 0]) (t:=66) ?hr ?_; (case hd => rfl); (case hg => rfl); (case hr => first | (go_simp; done) | (go_simp; rfl)); intro gb195 hg w22 hbox hb; have n0_:=Aside0.mk (Kd.R_below (by (with_reducible repeat (first | apply Kd.R_alloc | apply Kd.R_drewN | apply Kd.R_drew)); exact HO_3.out) hb); have n1_:=Aside0.mk (zAe (g:=gb188) (o:=.cells #[.slice (some ad194) l0_0.length c0_0,.int .i64 a0_1] 24 (0,0)) (by (with_reducible repeat (first | apply zAo | apply zAl | apply zAj)); exact BK188.out) hb); have n2_:=Aside0.mk (zAd (by repeat (first | (with_reducible first | exact HB.out | apply zAa | apply zAf | apply zAi | refine zAu ?_ GE188.out) | exact HB.out)) hb); have n3_:=Aside0.mk (hbox); have n4_:=Aside0.mk ((by rw [hg]; exact (zAy (by repeat (first | (with_reducible first | exact HB.out | apply zAa | apply zAf | apply zAi | refine zAu ?_ GE188.out) | exact HB.out))) : w.heap.size ≤ gb195)); have n5_:=Aside0.mk ((by rw [hg]; exact (zAy (by repeat (first | (with_reducible first | exact HB.out | apply zAa | apply zAf | apply zAi | refine zAu ?_ GE188.out) | exact HB.out))) : w.heap.size ≤ gb195)); have n6_:=Aside0.mk ((by rw [hg]; exact Nat.ne_of_lt (blk_lt (g:=gb188) (o:=.cells #[.slice (some ad194) l0_0.length c0_0,.int .i64 a0_1] 24 (0,0)) (by (with_reducible repeat (first | apply zAo | apply zAl | apply zAj)); exact BK188.out)) : gb188 ≠ gb195)); have n7_:=Aside0.mk ((by rw [hg]; exact Nat.ne_of_gt (blk_lt (g:=gb188) (o:=.cells #[.slice (some ad194) l0_0.length c0_0,.int .i64 a0_1] 24 (0,0)) (by (with_reducible repeat (first | apply zAo | apply zAl | apply zAj)); exact BK188.out)) : gb195 ≠ gb188)); clear HO_3; clear BK188; clear HB; have HO_3:=n0_; have BK188:=n1_; have HB:=n2_; have BK195:=n3_; have GW195:=n4_; have GE195:=n5_; have NB188_195:=n6_; have NB195_188:=n7_; clear n0_ n1_ n2_ n3_ n4_ n5_ n6_ n7_; clear hb hbox hg; have hnb23:=NB195_188.out; have hnc23:=NB188_195.out; have hcz24_0 : w22.cell? ⟨gb195,0,none⟩ = some (.int .i64 0):=(zAh BK195.out 0).trans rfl; have hcz24_1 : w22.cell? ⟨gb195,1,none⟩ = some (.int .i64 0):=(zAh BK195.out 1).trans rfl; have hcz24_2 : w22.cell? ⟨gb195,2,none⟩ = some (.int .i64 0):=(zAh BK195.out 2).trans rfl; have hcz24_3 : w22.cell? ⟨gb195,3,none⟩ = some (.string (⟨#[]⟩ : ByteArray)):=(zAh BK195.out 3).trans rfl; have hcz24_4 : w22.cell? ⟨gb195,4,none⟩ = some (.slice none 0 0):=(zAh BK195.out 4).trans rfl; have hfz24_0:=zAc BK195.out 0; have hfz24_1:=zAc BK195.out 1; have hfz24_2:=zAc BK195.out 2; have hfz24_3:=zAc BK195.out 3; have hfz24_4:=zAc BK195.out 4))
           go_loopg [30] k1 (fun kq v30 w' => ∃ (x3_2 : List Int) (x30_2 : Int),v30 = .int .i64 x30_2 ∧ Aside0 (zAm.l1 kq x3_2 x22_1 l0_0 (l0_0.length : Int) x22_1 ((rd_T66 l0_0 x22_1).f4) (((rd_T66 l0_0 x22_1).f4).length : Int) x30_2 = some r) ∧ Aside0 (kq ≤ k1) ∧ Aside0 (Kd.R (Kd.int .i64) 3 w' w.heap.size (fun _ => True) (.slice (some ⟨go8,0,none⟩) x3_1.length co8) x3_2) ∧ Aside0 (w'.heap[gb188]? = some (.cells #[(.slice (some ad194) l0_0.length c0_0),.int .i64 a0_1] 24 (0,0))) ∧ Aside0 (w'.heap[gb195]? = some (.cells #[.int .i64 ((rd_T66 l0_0 x22_1).f0),.int .i64 ((rd_T66 l0_0 x22_1).f1),.int .i64 ((rd_T66 l0_0 x22_1).f2),.string ((rd_T66 l0_0 x22_1).f3),(.slice A194_4 ((rd_T66 l0_0 x22_1).f4).length c194_4)] 66 (0,0))) ∧ Aside0 (Below w.heap.size w w'))
           case atStart => exact ⟨(x3_1),(0),(by first | rfl | (simp; done) | (simp [*]; done)),H',⟨Nat.le_refl _⟩,⟨by (try simp only [hl3_1]); (with_reducible repeat (first | apply Kd.R_alloc | apply Kd.R_drewN | apply Kd.R_drew)); exact Kd.R_mono (Kd.R_far (p:=⟨gb195,4,none⟩) (Kd.R_far (p:=⟨gb195,3,none⟩) (Kd.R_far (p:=⟨gb195,2,none⟩) (Kd.R_far (p:=⟨gb195,1,none⟩) (Kd.R_far (p:=⟨gb195,0,none⟩) (Kd.R_types HO_3.out BK195.out (by decide)) (fun _ hk => hk.2) (.int .i64 ((rd_T66 l0_0 x22_1).f0))) (fun _ hk => hk.2) (.int .i64 ((rd_T66 l0_0 x22_1).f1))) (fun _ hk => hk.2) (.int .i64 ((rd_T66 l0_0 x22_1).f2))) (fun _ hk => hk.2) (.string ((rd_T66 l0_0 x22_1).f3))) (fun _ hk => hk.2) (.slice A194_4 ((rd_T66 l0_0 x22_1).f4).length c194_4)) (fun _ hk => trivial)⟩,⟨by (try simp only [hl3_1]); (with_reducible repeat (first | apply zAo | apply zAl | apply zAj)); refine blk_far ?_ NB188_195.out _; (with_reducible repeat (first | apply zAo | apply zAl | apply zAj)); refine blk_far ?_ NB188_195.out _; (with_reducible repeat (first | apply zAo | apply zAl | apply zAj)); refine blk_far ?_ NB188_195.out _; (with_reducible repeat (first | apply zAo | apply zAl | apply zAj)); refine blk_far ?_ NB188_195.out _; (with_reducible repeat (first | apply zAo | apply zAl | apply zAj)); refine blk_far ?_ NB188_195.out _; (with_reducible repeat (first | apply zAo | apply zAl | apply zAj)); exact BK188.out⟩,⟨by (try simp only [hl3_1]); (with_reducible repeat (first | apply zAo | apply zAl | apply zAj)); refine blk_put (cs:=#[.int .i64 ((rd_T66 l0_0 x22_1).f0),.int .i64 ((rd_T66 l0_0 x22_1).f1),.int .i64 ((rd_T66 l0_0 x22_1).f2),.string ((rd_T66 l0_0 x22_1).f3),.slice none 0 0]) ?_ 4 _ rfl; (with_reducible repeat (first | apply zAo | apply zAl | apply zAj)); refine blk_put (cs:=#[.int .i64 ((rd_T66 l0_0 x22_1).f0),.int .i64 ((rd_T66 l0_0 x22_1).f1),.int .i64 ((rd_T66 l0_0 x22_1).f2),.string (⟨#[]⟩ : ByteArray),.slice none 0 0]) ?_ 3 _ rfl; (with_reducible repeat (first | apply zAo | apply zAl | apply zAj)); refine blk_put (cs:=#[.int .i64 ((rd_T66 l0_0 x22_1).f0),.int .i64 ((rd_T66 l0_0 x22_1).f1),.int .i64 0,.string (⟨#[]⟩ : ByteArray),.slice none 0 0]) ?_ 2 _ rfl; (with_reducible repeat (first | apply zAo | apply zAl | apply zAj)); refine blk_put (cs:=#[.int .i64 ((rd_T66 l0_0 x22_1).f0),.int .i64 0,.int .i64 0,.string (⟨#[]⟩ : ByteArray),.slice none 0 0]) ?_ 1 _ rfl; (with_reducible repeat (first | apply zAo | apply zAl | apply zAj)); refine blk_put (cs:=#[.int .i64 0,.int .i64 0,.int .i64 0,.string (⟨#[]⟩ : ByteArray),.slice none 0 0]) ?_ 0 _ rfl; (with_reducible repeat (first | apply zAo | apply zAl | apply zAj)); exact BK195.out⟩,⟨by repeat (first | (with_reducible first | exact HB.out | apply zAa | apply zAf | apply zAi | refine zAu ?_ GE188.out | refine zAu ?_ GE195.out) | exact HB.out)⟩⟩
           case round =>
            clear H'
            try clear c1
            try clear p1
            try clear q1
            try clear hx1
            try clear c2
            try clear p2
            try clear c3
            try clear c4
            try clear c4b0
            try clear c4b1
            try clear c5
            try clear c5b0
            try clear c5b1
            try clear c6
            try clear c6b0
            try clear c7
            try clear c7b0
            try clear p8
            try clear q8
            try clear hx8
            try clear hf8
            try clear c19
            try clear c19b0
            try clear p19
            try clear q19
            try clear hx19
            try clear c20
            try clear c20b0
            try clear c21
            try clear c21b0
            try clear c23
            try clear hcz10_0
            try clear hcz10_1
            try clear hcz12_0
            try clear hcz12_1
            try clear hcz15_0
            try clear hcz15_1
            try clear hcz18_0
            try clear hcz18_1
            try clear hcz24_0
            try clear hcz24_1
            try clear hcz24_2
            try clear hcz24_3
            try clear hcz24_4
            try clear hfz10_0
            try clear hfz10_1
            try clear hfz12_0
            try clear hfz12_1
            try clear hfz15_0
            try clear hfz15_1
            try clear hfz18_0
            try clear hfz18_1
            try clear hfz24_0
            try clear hfz24_1
            try clear hfz24_2
            try clear hfz24_3
            try clear hfz24_4
            try clear hx194_0
            try clear hx194_1
            try clear hx194_2
            try clear hx194_3
            try clear hx194_4
            try clear hx8_0
            try clear p194
            try clear p2
            try clear p8
            try clear q194
            try clear q8
            obtain ⟨x3_2,x30_2,rfl,HA,HK2,HO_3,BK188,BK195,HB⟩:=hrel
            have hl3_2:=(Kd.zBA HO_3.out).1
            rw [hl3_2] at HO_3
            (try simp only [hl3_2])
            (try simp only [hl3_2] at BK188)
            (try simp only [hl3_2] at BK195)
            cases gk with
            | zero => exact absurd HA.out (by simp [zAm.l1])
            | succ k2 =>
             have H:=HA.out
             clear HA
             simp only [zAm.l1] at H
             by_cases c25 : x30_2 < (((rd_T66 l0_0 x22_1).f4).length : Int)
             ·rw [if_pos c25] at H
              have c25b0 : decide (x30_2 < (((rd_T66 l0_0 x22_1).f4).length : Int)) = true:=decide_eq_true c25
              clear c25
              by_cases c26 : 0 ≤ x30_2
              ·rw [if_pos c26] at H
               have c26b0 : decide (0 ≤ x30_2) = true:=decide_eq_true c26
               clear c26
               by_cases c27 : x30_2 < (((rd_T66 l0_0 x22_1).f4).length : Int)
               ·rw [if_pos c27] at H
                have c27b0 : decide (x30_2 < (((rd_T66 l0_0 x22_1).f4).length : Int)) = true:=decide_eq_true c27
                clear c27
                by_cases c28 : 0 ≤ (rd ((rd_T66 l0_0 x22_1).f4) x30_2)
                ·rw [if_pos c28] at H
                 have c28b0 : decide (0 ≤ (rd ((rd_T66 l0_0 x22_1).f4) x30_2)) = true:=decide_eq_true c28
                 clear c28
                 by_cases c29 : (rd ((rd_T66 l0_0 x22_1).f4) x30_2) < (x3_2.length : Int)
                 ·rw [if_pos c29] at H
                  have c29b0 : decide ((rd ((rd_T66 l0_0 x22_1).f4) x30_2) < (x3_2.length : Int)) = true:=decide_eq_true c29
                  clear c29
                  obtain ⟨y197,hy197⟩ : ∃ y_ : List Int,y_ = (x3_2.set ((rd ((rd_T66 l0_0 x22_1).f4) x30_2) : Int).toNat x22_1):=⟨_,rfl⟩
                  replace H : (zAm.l1 k2 y197 x22_1 l0_0 (l0_0.length : Int) x22_1 ((rd_T66 l0_0 x22_1).f4) (((rd_T66 l0_0 x22_1).f4).length : Int) (wrap64 (x30_2 + 1))) = some r:=by first | (rw [hy197]; with_reducible exact H) | (have H2_:=(Option.bind_some _ _).symm.trans H; rw [hy197]; with_reducible exact H2_) | (have H2_:=(Option.bind_some _ _).symm.trans H; with_reducible exact H2_) | with_reducible exact H | (rw [hy197]; exact H) | exact H
                  have Ny197:=Aside0.mk hy197
                  clear hy197
                  have H':=Aside0.mk H
                  clear H
                  have p196 : 0 ≤ (x30_2 : Int):=of_decide_eq_true (by first | (with_reducible assumption) | assumption)
                  have q196 : x30_2 < (((rd_T66 l0_0 x22_1).f4).length : Int):=of_decide_eq_true (by first | (with_reducible assumption) | assumption)
                  obtain ⟨ad196,e196,hx196_0⟩:=Kd.at_int HR194_4.out x30_2 p196 q196
                  cases e196
                  replace hx196_0:=(HB.out.cell (World.block_lt_of_cell? w _ hx196_0)).trans hx196_0
                  replace p196:=eq_true p196
                  replace q196:=eq_true q196
                  have p30 : 0 ≤ ((rd ((rd_T66 l0_0 x22_1).f4) x30_2) : Int):=of_decide_eq_true (by first | (with_reducible assumption) | assumption)
                  have q30 : ((rd ((rd_T66 l0_0 x22_1).f4) x30_2) : Int) < ((x3_2.length : Int) : Int):=of_decide_eq_true (by first | (with_reducible assumption) | assumption)
                  obtain ⟨hx30_0,hf30_0⟩:=Kd.R_celln 0 HO_3.out ((rd ((rd_T66 l0_0 x22_1).f4) x30_2) : Int) p30 q30
                  replace p30:=eq_true p30
                  replace q30:=eq_true q30
                  have HP31:=Kd.R_putg HO_3.out ((rd ((rd_T66 l0_0 x22_1).f4) x30_2) : Int) x22_1
                  go_wp2_with (first | ((with_reducible refine gate_store (t:=3) (p:=37) rfl ?_); refine store_event (t:=3) (p:=37) (v:=?vo_w32) (w1:=(wr.setCell ⟨go8,((rd ((rd_T66 l0_0 x22_1).f4) x30_2) : Int).toNat,none⟩ (.int .i64 x22_1))) ?hg ?ho ?hn ?hr ?_; (case ho => rfl); (case hg => rfl); (case hn => rfl); (case hr => first | (go_simp; done) | (go_simp; rfl)); intro w32 hw; have hg : wr.grownBy w32 (some go8):=(by rw [hw]; exact HP31.2); have hp_ : Kd.R (Kd.int .i64) 3 w32 w.heap.size (fun _ => True) (.slice (some ⟨go8,0,none⟩) x3_2.length co8) y197:=(by rw [hw,Ny197.out]; exact HP31.1); clear HP31; have n0_:=Aside0.mk (hp_); have n1_:=Aside0.mk (zCf (g:=gb188) (o:=.cells #[.slice (some ad194) l0_0.length c0_0,.int .i64 a0_1] 24 (0,0)) (by (with_reducible repeat (first | apply zAo | apply zAl | apply zAj)); exact BK188.out) hg (Kd.R_ne HO_3.out BK188.out (by decide))); have n2_:=Aside0.mk (zCf (g:=gb195) (o:=.cells #[.int .i64 ((rd_T66 l0_0 x22_1).f0),.int .i64 ((rd_T66 l0_0 x22_1).f1),.int .i64 ((rd_T66 l0_0 x22_1).f2),.string ((rd_T66 l0_0 x22_1).f3),.slice (some ad196) ((rd_T66 l0_0 x22_1).f4).length c194_4] 66 (0,0)) (by (with_reducible repeat (first | apply zAo | apply zAl | apply zAj)); exact BK195.out) hg (Kd.R_ne HO_3.out BK195.out (by decide))); have n3_:=Aside0.mk ((by rw [hw]; exact zAu (HB.out) GB8.out : Below w.heap.size w w32)); clear HO_3; clear BK188; clear BK195; clear HB; have HO_3:=n0_; have BK188:=n1_; have BK195:=n2_; have HB:=n3_; clear n0_ n1_ n2_ n3_; clear hg hw hp_))
                  (try simp only [← hl3_2])
                  go_roundg k2
                  case measure => have:=HK1.out; have:=HK2.out; omega
                  case rel => exact ⟨(y197),(wrap64 (x30_2 + 1)),(by first | rfl | (simp; done) | (simp [*]; done)),H',⟨by have:=HK1.out; have:=HK2.out; omega⟩,⟨by (try simp only [hl3_1]); (try simp only [hl3_2]); (with_reducible repeat (first | apply Kd.R_alloc | apply Kd.R_drewN | apply Kd.R_drew)); exact HO_3.out⟩,⟨by (try simp only [hl3_1]); (try simp only [hl3_2]); (with_reducible repeat (first | apply zAo | apply zAl | apply zAj)); exact BK188.out⟩,⟨by (try simp only [hl3_1]); (try simp only [hl3_2]); (with_reducible repeat (first | apply zAo | apply zAl | apply zAj)); exact BK195.out⟩,⟨by repeat (first | (with_reducible first | exact HB.out | apply zAa | apply zAf | apply zAi | refine zAu ?_ GE188.out | refine zAu ?_ GE195.out) | exact HB.out)⟩⟩
                 ·rw [if_neg c29] at H
                  exact absurd H (by simp)
                ·rw [if_neg c28] at H
                 exact absurd H (by simp)
               ·rw [if_neg c27] at H
                exact absurd H (by simp)
              ·rw [if_neg c26] at H
               exact absurd H (by simp)
             ·rw [if_neg c25] at H
              have c25b0 : decide (x30_2 < (((rd_T66 l0_0 x22_1).f4).length : Int)) = false:=decide_eq_false c25
              clear c25
              have H':=Aside0.mk H
              clear H
              go_wp2
              (try simp only [← hl3_1,← hl3_2])
              go_roundg k2
              case measure => have:=HK1.out; have:=HK2.out; omega
              case rel => exact ⟨(x3_2),(wrap64 (x22_1 + 1)),(by first | rfl | (simp; done) | (simp [*]; done)),H',⟨by have:=HK1.out; have:=HK2.out; omega⟩,⟨by (try simp only [hl3_1]); (try simp only [hl3_2]); (with_reducible repeat (first | apply Kd.R_alloc | apply Kd.R_drewN | apply Kd.R_drew)); exact HO_3.out⟩,⟨by (try simp only [hl3_1]); (try simp only [hl3_2]); (with_reducible repeat (first | apply zAo | apply zAl | apply zAj)); exact BK188.out⟩,⟨by repeat (first | (with_reducible first | exact HB.out | apply zAa | apply zAf | apply zAi | refine zAu ?_ GE188.out | refine zAu ?_ GE195.out) | exact HB.out)⟩⟩
          ·rw [if_neg c21] at H
           exact absurd H (by simp)
         ·rw [if_neg c20] at H
          exact absurd H (by simp)
        ·rw [if_neg c19] at H
         have c19b0 : decide (x22_1 < (l0_0.length : Int)) = false:=decide_eq_false c19
         clear c19
         obtain rfl:=Option.some.inj H
         go_wp2
         go_ret
         exact ⟨_,by first | rfl | (simp [zAs,zAt] <;> rfl) | (simp [*,zAs,zAt] <;> rfl),by (with_reducible repeat (first | apply Kd.R_alloc | apply Kd.R_drewN | apply Kd.R_drew)); exact HO_3.out,by repeat (first | (with_reducible first | exact HB.out | apply zAa | apply zAf | apply zAi | refine zAu ?_ GE188.out) | exact HB.out)⟩
     ·rw [if_neg c7] at H
      exact absurd H (by simp)
    ·rw [if_neg c6] at H
     exact absurd H (by simp)
   ·rw [if_neg c5] at H
    exact absurd H (by simp)
  ·rw [if_neg c4] at H
   exact absurd H (by simp)
 ·replace c3:=Bool.eq_false_iff.mpr c3
  subst c3
  have H1 : (some ([] : List Int)) = some r:=by rw [if_neg (show ¬ (false = true) by decide)] at H; exact H
  clear H
  have H:=H1
  clear H1
  obtain rfl:=Option.some.inj H
  go_enter Tryz.func62,Tryz.ntmps62
  go_wp2_with (first | ((with_reducible refine zAZ (N:=1) rfl ?_); refine zBa ?hg (N:=1) ?hd (cs:=#[.slice A0_0 l0_0.length c0_0,.int .i64 a0_1]) (t:=24) ?hr ?_; (case hd => rfl); (case hg => rfl); (case hr => first | (go_simp; done) | (go_simp; rfl)); intro gb188 hg w33 hbox hb; have n0_:=Aside0.mk (zAd (by repeat (first | (with_reducible first | exact HB.out | apply zAa | apply zAf | apply zAi) | exact HB.out)) hb); have n1_:=Aside0.mk (hbox); have n2_:=Aside0.mk ((by rw [hg]; exact (zAy (by repeat (first | (with_reducible first | exact HB.out | apply zAa | apply zAf | apply zAi) | exact HB.out))) : w.heap.size ≤ gb188)); have n3_:=Aside0.mk ((by rw [hg]; exact (zAy (by repeat (first | (with_reducible first | exact HB.out | apply zAa | apply zAf | apply zAi) | exact HB.out))) : w.heap.size ≤ gb188)); clear HB; have HB:=n0_; have BK188:=n1_; have GW188:=n2_; have GE188:=n3_; clear n0_ n1_ n2_ n3_; clear hb hbox hg; have hcz34_0 : w33.cell? ⟨gb188,0,none⟩ = some (.slice A0_0 l0_0.length c0_0):=(zAh BK188.out 0).trans rfl; have hcz34_1 : w33.cell? ⟨gb188,1,none⟩ = some (.int .i64 a0_1):=(zAh BK188.out 1).trans rfl; have hfz34_0:=zAc BK188.out 0; have hfz34_1:=zAc BK188.out 1) | ((with_reducible refine zAF (f:=55) rfl ?_); refine goesL_ (some 9) rfl rfl Tryz.func55 (by kernel_rfl) rfl #[.agg #[.slice A0_0 l0_0.length c0_0,.int .i64 a0_1]] rfl (by (try simp only [List.map_toArray,List.map_cons,List.map_nil]); first | done | rfl | (simp only [List.length_drop,List.length_take]; rfl)) ?_; (with_reducible refine (zAE.calls _ _ l0_0 a0_1 false _ ?side1 ?side2 A2.out).mono ?_); (case side1 => repeat (first | exact (Kd.C_below HR0_0.out HB.out) | (with_reducible refine Kd.C_alloc ?_ _) | (with_reducible refine Kd.C_drewN ?_ _) | (with_reducible refine Kd.C_drew ?_))); (case side2 => exact HC0_0.out); rintro e w35 ⟨rfl,hb⟩; refine ⟨_,rfl,?_⟩; have n0_:=Aside0.mk (zAe (g:=gb188) (o:=.cells #[.slice A0_0 l0_0.length c0_0,.int .i64 a0_1] 24 (0,0)) (by (with_reducible repeat (first | apply zAo | apply zAl | apply zAj)); exact BK188.out) hb); have n1_:=Aside0.mk (zAd (by repeat (first | (with_reducible first | exact HB.out | apply zAa | apply zAf | apply zAi | refine zAu ?_ GE188.out) | exact HB.out)) hb); clear BK188; clear HB; have BK188:=n0_; have HB:=n1_; clear n0_ n1_; (try clear hb); (try clear hb2); (try clear hk); (try clear hi)))
  go_ret
  exact ⟨_,by first | rfl | (simp [zAs,zAt] <;> rfl) | (simp [*,zAs,zAt] <;> rfl),by first | exact Kd.R_nil _ _ _ _ _ | exact Kd.N_nil _ _ _ _ _ | exact Kd.V_nil _ _ _ _ _ | exact Kd.Q_nil _ _ _ _ _ | exact Kd.S_nil _ _ _ _ _,by repeat (first | (with_reducible first | exact HB.out | apply zAa | apply zAf | apply zAi | refine zAu ?_ GE188.out) | exact HB.out)⟩
end Go.Proofs.YtkhlfdcjgooogaaGreat.P
