import Derived.Test.YtkhlfdcjgooogaaTrB
import Derived.Test.YtkhlfdcjgooogaaPf64
set_option linter.unusedVariables false
set_option linter.unusedSimpArgs false
namespace Go.Proofs.Ytkhlfdcjgooogaa.P
open Go.RowKit Go.Proofs.YtkhlfdcjgooogaaW.PrintWords Go.Proofs.YtkhlfdcjgooogaaW.PrintLast Go.Proofs.YtkhlfdcjgooogaaW.PrintMore
attribute [local go_sem] max2_int min2_int max_two min_two max_three min_three max_four min_four
mutual
def tree_Parents.l0 : Nat → List Int → List (S101) → Int → Int → Option (List Int)
 | 0, _, _, _, _ => none
 | k + 1, x3, x20, x21, x22 => if x22 < x21 then (if 0 ≤ x22 then (if x22 < (x20.length : Int) then (tree_Parents.l1 k x3 x22 x20 x21 x22 ((rd_T101 x20 x22).f4) (((rd_T101 x20 x22).f4).length : Int) 0) else (none)) else (none)) else (some x3)
def tree_Parents.l1 : Nat → List Int → Int → List (S101) → Int → Int → List Int → Int → Int → Option (List Int)
 | 0, _, _, _, _, _, _, _, _ => none
 | k + 1, x3, x4, x20, x21, x22, x28, x29, x30 => if x30 < x29 then (if 0 ≤ x30 then (if x30 < (x28.length : Int) then (if 0 ≤ (rd x28 x30) then (if (rd x28 x30) < (x3.length : Int) then (tree_Parents.l1 k (x3.set ((rd x28 x30) : Int).toNat x4) x4 x20 x21 x22 x28 x29 (wrap64 (x30 + 1))) else (none)) else (none)) else (none)) else (none)) else (tree_Parents.l0 k x3 x20 x21 (wrap64 (x22 + 1)))
end
def tree_Parents.f (k : Nat) (l0_0 : List (S101)) (a0_1 : Int) : Option (List Int) := (tree_Sound.f l0_0 a0_1).bind fun t166 => (if t166 = true then (if 0 ≤ (l0_0.length : Int) then (if ((l0_0.length : Int) : Int).toNat ≤ 35184372088832 then ((some (List.replicate ((l0_0.length : Int) : Int).toNat 0 : List Int)).bind fun y167 => (if 0 ≤ a0_1 then (if a0_1 < (y167.length : Int) then (tree_Parents.l0 k (y167.set (a0_1 : Int).toNat (-1)) l0_0 (l0_0.length : Int) 0) else (none)) else (none))) else (none)) else (none)) else (some ([] : List Int)))
set_option maxHeartbeats 8000000 in
set_option maxRecDepth 100000 in
theorem tree_Parents.calls (k : Nat) (A0_0 : Option Addr) (c0_0 : Nat) (l0_0 : List (S101)) (a0_1 : Int) (r : List Int) (w : World) (hr0_0 : Kd.C k101 w A0_0 l0_0.length l0_0) (hc0_0 : l0_0.length ≤ c0_0) (h : tree_Parents.f k l0_0 a0_1 = some r) :
  Calls Try.prog 71 #[.agg #[.slice A0_0 l0_0.length c0_0, .int .i64 a0_1]] w fun e w' => ∃ v0_ : Value, e = .returned (v0_) ∧ Kd.R (Kd.int .i64) 3 w' w.heap.size (fun _ => True) v0_ r ∧ Below w.heap.size w w' := by
 have hu69 := Try.underlying69
 have hu101 := Try.underlying101
 have HR0_0 := Aside0.mk hr0_0
 have HC0_0 := Aside0.mk hc0_0
 clear hr0_0 hc0_0
 have HB := Aside0.mk (Below.refl w.heap.size w)
 have H : ((tree_Sound.f l0_0 a0_1).bind fun t166 => (if t166 = true then (if 0 ≤ (l0_0.length : Int) then (if ((l0_0.length : Int) : Int).toNat ≤ 35184372088832 then ((some (List.replicate ((l0_0.length : Int) : Int).toNat 0 : List Int)).bind fun y167 => (if 0 ≤ a0_1 then (if a0_1 < (y167.length : Int) then (tree_Parents.l0 k (y167.set (a0_1 : Int).toNat (-1)) l0_0 (l0_0.length : Int) 0) else (none)) else (none))) else (none)) else (none)) else (some ([] : List Int)))) = some r := h
 clear h
 replace H := Option.bind_eq_some_iff.mp H
 obtain ⟨t166, A20, H⟩ := H
 replace H : (if t166 = true then (if 0 ≤ (l0_0.length : Int) then (if ((l0_0.length : Int) : Int).toNat ≤ 35184372088832 then ((some (List.replicate ((l0_0.length : Int) : Int).toNat 0 : List Int)).bind fun y167 => (if 0 ≤ a0_1 then (if a0_1 < (y167.length : Int) then (tree_Parents.l0 k (y167.set (a0_1 : Int).toNat (-1)) l0_0 (l0_0.length : Int) 0) else (none)) else (none))) else (none)) else (none)) else (some ([] : List Int))) = some r := H
 have A2 := Aside0.mk A20
 clear A20
 by_cases c3 : t166 = true
 ·subst c3
  have H1 : (if 0 ≤ (l0_0.length : Int) then (if ((l0_0.length : Int) : Int).toNat ≤ 35184372088832 then ((some (List.replicate ((l0_0.length : Int) : Int).toNat 0 : List Int)).bind fun y167 => (if 0 ≤ a0_1 then (if a0_1 < (y167.length : Int) then (tree_Parents.l0 k (y167.set (a0_1 : Int).toNat (-1)) l0_0 (l0_0.length : Int) 0) else (none)) else (none))) else (none)) else (none)) = some r := by rw [if_pos rfl] at H; exact H
  clear H
  have H := H1
  clear H1
  by_cases c4 : 0 ≤ (l0_0.length : Int)
  ·rw [if_pos c4] at H
   have c4b0 := eq_true c4
   have c4b1 : decide (0 ≤ (l0_0.length : Int)) = true := decide_eq_true c4
   clear c4
   by_cases c5 : ((l0_0.length : Int) : Int).toNat ≤ 35184372088832
   ·rw [if_pos c5] at H
    have c5b0 := eq_true c5
    have c5b1 : decide (((l0_0.length : Int) : Int).toNat ≤ 35184372088832) = true := decide_eq_true c5
    clear c5
    obtain ⟨y167, hy167⟩ : ∃ y_ : List Int, y_ = (List.replicate ((l0_0.length : Int) : Int).toNat 0) := ⟨_, rfl⟩
    replace H : (if 0 ≤ a0_1 then (if a0_1 < (y167.length : Int) then (tree_Parents.l0 k (y167.set (a0_1 : Int).toNat (-1)) l0_0 (l0_0.length : Int) 0) else (none)) else (none)) = some r := by first | (rw [hy167]; with_reducible exact H) | (have H2_ := (Option.bind_some _ _).symm.trans H; rw [hy167]; with_reducible exact H2_) | (have H2_ := (Option.bind_some _ _).symm.trans H; with_reducible exact H2_) | with_reducible exact H | (rw [hy167]; exact H) | exact H
    have Ny167 := Aside0.mk hy167
    clear hy167
    by_cases c6 : 0 ≤ a0_1
    ·rw [if_pos c6] at H
     have c6b0 : decide (0 ≤ a0_1) = true := decide_eq_true c6
     clear c6
     by_cases c7 : a0_1 < (y167.length : Int)
     ·rw [if_pos c7] at H
      have c7b0 : decide (a0_1 < (y167.length : Int)) = true := decide_eq_true c7
      clear c7
      obtain ⟨y170, hy170⟩ : ∃ y_ : List Int, y_ = (y167.set (a0_1 : Int).toNat (-1)) := ⟨_, rfl⟩
      replace H : (tree_Parents.l0 k y170 l0_0 (l0_0.length : Int) 0) = some r := by first | (rw [hy170]; with_reducible exact H) | (have H2_ := (Option.bind_some _ _).symm.trans H; rw [hy170]; with_reducible exact H2_) | (have H2_ := (Option.bind_some _ _).symm.trans H; with_reducible exact H2_) | with_reducible exact H | (rw [hy170]; exact H) | exact H
      have Ny170 := Aside0.mk hy170
      clear hy170
      have H' := Aside0.mk H
      clear H
      go_enter Try.func71, Try.ntmps71
      go_wp2_with (first | ((with_reducible refine gate_dst (N := 1) rfl ?_); refine box_event ?hg (N := 1) ?hd (cs := #[.slice A0_0 l0_0.length c0_0, .int .i64 a0_1]) (t := 69) ?hr ?_; (case hd => rfl); (case hg => rfl); (case hr => first | (go_simp; done) | (go_simp; rfl)); intro gb165 hg w9 hbox hb; have n0_ := Aside0.mk (below_step (by repeat (first | (with_reducible first | exact HB.out | apply below_alloc | apply pw_below_drewN | apply below_drew1) | exact HB.out)) hb); have n1_ := Aside0.mk (hbox); have n2_ := Aside0.mk ((by rw [hg]; exact (below_size (by repeat (first | (with_reducible first | exact HB.out | apply below_alloc | apply pw_below_drewN | apply below_drew1) | exact HB.out))) : w.heap.size ≤ gb165)); have n3_ := Aside0.mk ((by rw [hg]; exact (below_size (by repeat (first | (with_reducible first | exact HB.out | apply below_alloc | apply pw_below_drewN | apply below_drew1) | exact HB.out))) : w.heap.size ≤ gb165)); clear HB; have HB := n0_; have BK165 := n1_; have GW165 := n2_; have GE165 := n3_; clear n0_ n1_ n2_ n3_; clear hb hbox hg; have hcz10_0 : w9.cell? ⟨gb165, 0, none⟩ = some (.slice A0_0 l0_0.length c0_0) := (blk_cell BK165.out 0).trans rfl; have hcz10_1 : w9.cell? ⟨gb165, 1, none⟩ = some (.int .i64 a0_1) := (blk_cell BK165.out 1).trans rfl; have hfz10_0 := blk_frozen BK165.out 0; have hfz10_1 := blk_frozen BK165.out 1) | ((with_reducible refine gate_callee (f := 64) rfl ?_); refine goesL_ (some 9) rfl rfl Try.func64 (by kernel_rfl) rfl #[.agg #[.slice A0_0 l0_0.length c0_0, .int .i64 a0_1]] rfl (by (try simp only [List.map_toArray, List.map_cons, List.map_nil]); first | done | rfl | (simp only [List.length_drop, List.length_take]; rfl)) ?_; (with_reducible refine (tree_Sound.calls _ _ l0_0 a0_1 true _ ?side1 ?side2 A2.out).mono ?_); (case side1 => repeat (first | exact (Kd.C_below HR0_0.out HB.out) | (with_reducible refine Kd.C_alloc ?_ _) | (with_reducible refine Kd.C_drewN ?_ _) | (with_reducible refine Kd.C_drew ?_))); (case side2 => exact HC0_0.out); rintro e w11 ⟨rfl, hb⟩; refine ⟨_, rfl, ?_⟩; have n0_ := Aside0.mk (blk_below (g := gb165) (o := .cells #[.slice A0_0 l0_0.length c0_0, .int .i64 a0_1] 69 (0, 0)) (by (with_reducible repeat (first | refine blk_drewN ?_ _ | refine blk_drew ?_ | refine blk_alloc ?_ _)); exact BK165.out) hb); have n1_ := Aside0.mk (below_step (by repeat (first | (with_reducible first | exact HB.out | apply below_alloc | apply pw_below_drewN | apply below_drew1 | refine below_set ?_ GE165.out) | exact HB.out)) hb); clear BK165; clear HB; have BK165 := n0_; have HB := n1_; clear n0_ n1_; (try clear hb); (try clear hb2); (try clear hk); (try clear hi); have hcz12_0 : w11.cell? ⟨gb165, 0, none⟩ = some (.slice A0_0 l0_0.length c0_0) := (blk_cell BK165.out 0).trans rfl; have hcz12_1 : w11.cell? ⟨gb165, 1, none⟩ = some (.int .i64 a0_1) := (blk_cell BK165.out 1).trans rfl; have hfz12_0 := blk_frozen BK165.out 0; have hfz12_1 := blk_frozen BK165.out 1) | ((with_reducible refine gate_dst (N := 14) rfl ?_); refine Kd.R_make (Kd.int .i64) _ 3 rfl (N := 14) rfl 70 _ _ rfl (l0_0.length : Int) rfl rfl Try.underlying70 (.int .i64 0) 8 info3 rfl (by decide) (by omega) 0 (ok := fun _ => True) (okp := fun _ => True) rfl (fun _ hk => hk) trivial (of_decide_eq_true (by first | (with_reducible assumption) | assumption)) (Nat.le_trans (Nat.mul_le_mul_right _ (of_decide_eq_true (by first | (with_reducible assumption) | assumption) : (l0_0.length : Int).toNat ≤ 35184372088832)) (by omega)) (Below.refl _ _) (Nat.le_refl _) ?_; intro v168 w13 ho14 hb hg_ hnew_; clear hg_ hnew_; (first | rw [← Ny167.out] at ho14 | (simp only [Int.reduceToNat] at ho14; rw [← Ny167.out] at ho14)); have n0_ := Aside0.mk (Kd.R_lower ho14 (below_size (by repeat (first | (with_reducible first | exact HB.out | apply below_alloc | apply pw_below_drewN | apply below_drew1 | refine below_set ?_ GE165.out) | exact HB.out)))); have n1_ := Aside0.mk (blk_below (g := gb165) (o := .cells #[.slice A0_0 l0_0.length c0_0, .int .i64 a0_1] 69 (0, 0)) (by (with_reducible repeat (first | refine blk_drewN ?_ _ | refine blk_drew ?_ | refine blk_alloc ?_ _)); exact BK165.out) hb); have n2_ := Aside0.mk (below_step (by repeat (first | (with_reducible first | exact HB.out | apply below_alloc | apply pw_below_drewN | apply below_drew1 | refine below_set ?_ GE165.out) | exact HB.out)) hb); clear BK165; clear HB; have HO169 := n0_; have BK165 := n1_; have HB := n2_; clear n0_ n1_ n2_; clear hb ho14; have hcz15_0 : w13.cell? ⟨gb165, 0, none⟩ = some (.slice A0_0 l0_0.length c0_0) := (blk_cell BK165.out 0).trans rfl; have hcz15_1 : w13.cell? ⟨gb165, 1, none⟩ = some (.int .i64 a0_1) := (blk_cell BK165.out 1).trans rfl; have hfz15_0 := blk_frozen BK165.out 0; have hfz15_1 := blk_frozen BK165.out 1; have p8 : 0 ≤ (a0_1 : Int) := of_decide_eq_true (by first | (with_reducible assumption) | assumption); have q8 : (a0_1 : Int) < ((y167.length : Int) : Int) := of_decide_eq_true (by first | (with_reducible assumption) | assumption); obtain ⟨go8, co8, eo8, gb8, gl8, cl8, HG8⟩ := Kd.R_form HO169.out (by omega); (first | cases eo8 | (injection eo8 with ea_ en_ ec_; (first | subst ea_ | (injection ea_ with ea_; subst ea_)); subst ec_; clear en_)); have GB8 := Aside0.mk gb8; have GG8 := Aside0.mk HG8; clear gb8 gl8 HG8; obtain ⟨hx8_0, hf8_0⟩ := Kd.R_celln 0 HO169.out (a0_1 : Int) p8 q8; replace p8 := eq_true p8; replace q8 := eq_true q8; obtain ⟨hy16_, hz16_⟩ := Kd.R_celln 0 HO169.out (a0_1 : Int) (of_decide_eq_true (by first | (with_reducible assumption) | assumption)) (of_decide_eq_true (by first | (with_reducible assumption) | assumption)); have HP16 := Kd.R_putg HO169.out (a0_1 : Int) (-1)) | ((with_reducible refine gate_store (t := 3) (p := 18) rfl ?_); refine store_event (t := 3) (p := 18) (v := ?vo_w17) (w1 := (w13.setCell ⟨go8, (a0_1 : Int).toNat, none⟩ (.int .i64 (-1)))) ?hg ?ho ?hn ?hr ?_; (case ho => rfl); (case hg => rfl); (case hn => rfl); (case hr => first | (go_simp; done) | (go_simp; rfl)); intro w17 hw; have hg : w13.grownBy w17 (some go8) := (by rw [hw]; exact HP16.2); have hp_ : Kd.R (Kd.int .i64) 3 w17 w.heap.size (fun _ => True) (.slice (some ⟨go8, 0, none⟩) y167.length co8) y170 := (by rw [hw, Ny170.out]; exact HP16.1); clear HP16; have n0_ := Aside0.mk (blk_grown (g := gb165) (o := .cells #[.slice A0_0 l0_0.length c0_0, .int .i64 a0_1] 69 (0, 0)) (by (with_reducible repeat (first | refine blk_drewN ?_ _ | refine blk_drew ?_ | refine blk_alloc ?_ _)); exact BK165.out) hg (Kd.R_ne HO169.out BK165.out (by decide))); have n1_ := Aside0.mk (hp_); have n2_ := Aside0.mk ((by rw [hw]; exact below_set (HB.out) GB8.out : Below w.heap.size w w17)); clear BK165; clear HO169; clear HB; have BK165 := n0_; have HO169 := n1_; have HB := n2_; clear n0_ n1_ n2_; clear hg hw hp_; have hcz18_0 : w17.cell? ⟨gb165, 0, none⟩ = some (.slice A0_0 l0_0.length c0_0) := (blk_cell BK165.out 0).trans rfl; have hcz18_1 : w17.cell? ⟨gb165, 1, none⟩ = some (.int .i64 a0_1) := (blk_cell BK165.out 1).trans rfl; have hfz18_0 := blk_frozen BK165.out 0; have hfz18_1 := blk_frozen BK165.out 1))
      go_loopg [22] k (fun kq v22 w' => ∃ (x3_1 : List Int) (x22_1 : Int), v22 = .int .i64 x22_1 ∧ Aside0 (tree_Parents.l0 kq x3_1 l0_0 (l0_0.length : Int) x22_1 = some r) ∧ Aside0 (kq ≤ k) ∧ Aside0 (Kd.R (Kd.int .i64) 3 w' w.heap.size (fun _ => True) (.slice (some ⟨go8, 0, none⟩) y167.length co8) x3_1) ∧ Aside0 (w'.heap[gb165]? = some (.cells #[(.slice A0_0 l0_0.length c0_0), .int .i64 a0_1] 69 (0, 0))) ∧ Aside0 (Below w.heap.size w w'))
      case atStart => exact ⟨(y170), (0), (by first | rfl | (simp; done) | (simp [*]; done)), H', ⟨Nat.le_refl _⟩, ⟨by (with_reducible repeat (first | apply Kd.R_alloc | apply Kd.R_drewN | apply Kd.R_drew)); exact HO169.out⟩, ⟨by (with_reducible repeat (first | refine blk_drewN ?_ _ | refine blk_drew ?_ | refine blk_alloc ?_ _)); exact BK165.out⟩, ⟨by repeat (first | (with_reducible first | exact HB.out | apply below_alloc | apply pw_below_drewN | apply below_drew1 | refine below_set ?_ GE165.out) | exact HB.out)⟩⟩
      case round =>
       clear H'
       try clear p2
       try clear c3
       try clear c4
       try clear c4b0
       try clear c4b1
       try clear c5
       try clear c5b0
       try clear c5b1
       try clear c6
       try clear c6b0
       try clear c7
       try clear c7b0
       try clear p8
       try clear q8
       try clear hx8
       try clear hf8
       try clear hcz10_0
       try clear hcz10_1
       try clear hcz12_0
       try clear hcz12_1
       try clear hcz15_0
       try clear hcz15_1
       try clear hcz18_0
       try clear hcz18_1
       try clear hfz10_0
       try clear hfz10_1
       try clear hfz12_0
       try clear hfz12_1
       try clear hfz15_0
       try clear hfz15_1
       try clear hfz18_0
       try clear hfz18_1
       try clear hx8_0
       try clear p8
       try clear q8
       obtain ⟨x3_1, x22_1, rfl, HA, HK1, HO_3, BK165, HB⟩ := hrel
       have hl3_1 := (Kd.R_reads' HO_3.out).1
       rw [hl3_1] at HO_3
       (try simp only [hl3_1])
       (try simp only [hl3_1] at BK165)
       cases gk with
       | zero => exact absurd HA.out (by simp [tree_Parents.l0])
       | succ k1 =>
        have H := HA.out
        clear HA
        simp only [tree_Parents.l0] at H
        by_cases c19 : x22_1 < (l0_0.length : Int)
        ·rw [if_pos c19] at H
         have c19b0 : decide (x22_1 < (l0_0.length : Int)) = true := decide_eq_true c19
         clear c19
         by_cases c20 : 0 ≤ x22_1
         ·rw [if_pos c20] at H
          have c20b0 : decide (0 ≤ x22_1) = true := decide_eq_true c20
          clear c20
          by_cases c21 : x22_1 < (l0_0.length : Int)
          ·rw [if_pos c21] at H
           have c21b0 : decide (x22_1 < (l0_0.length : Int)) = true := decide_eq_true c21
           clear c21
           have H' := Aside0.mk H
           clear H
           have p171 : 0 ≤ (x22_1 : Int) := of_decide_eq_true (by first | (with_reducible assumption) | assumption)
           have q171 : x22_1 < (l0_0.length : Int) := of_decide_eq_true (by first | (with_reducible assumption) | assumption)
           obtain ⟨ad171, A171_4, c171_4, e171, hx171_0, hx171_1, hx171_2, hx171_3, hx171_4, hl171_4, hi171_4⟩ := at_T101 HR0_0.out x22_1 p171 q171
           cases e171
           replace hx171_0 := (HB.out.cell (World.block_lt_of_cell? w _ hx171_0)).trans hx171_0
           replace hx171_1 := (HB.out.cell (World.block_lt_of_cell? w _ hx171_1)).trans hx171_1
           replace hx171_2 := (HB.out.cell (World.block_lt_of_cell? w _ hx171_2)).trans hx171_2
           replace hx171_3 := (HB.out.cell (World.block_lt_of_cell? w _ hx171_3)).trans hx171_3
           replace hx171_4 := (HB.out.cell (World.block_lt_of_cell? w _ hx171_4)).trans hx171_4
           have HR171_4 := Aside0.mk hi171_4
           have HC171_4 := Aside0.mk hl171_4
           clear hi171_4 hl171_4
           replace p171 := eq_true p171
           replace q171 := eq_true q171
           go_wp2_with (first | ((with_reducible refine gate_dst (N := 5) rfl ?_); refine box_event ?hg (N := 5) ?hd (cs := #[.int .i64 0, .int .i64 0, .int .i64 0, .string (⟨#[]⟩ : ByteArray), .slice none 0 0]) (t := 101) ?hr ?_; (case hd => rfl); (case hg => rfl); (case hr => first | (go_simp; done) | (go_simp; rfl)); intro gb172 hg w22 hbox hb; have n0_ := Aside0.mk (Kd.R_below (by (with_reducible repeat (first | apply Kd.R_alloc | apply Kd.R_drewN | apply Kd.R_drew)); exact HO_3.out) hb); have n1_ := Aside0.mk (blk_below (g := gb165) (o := .cells #[.slice (some ad171) l0_0.length c0_0, .int .i64 a0_1] 69 (0, 0)) (by (with_reducible repeat (first | refine blk_drewN ?_ _ | refine blk_drew ?_ | refine blk_alloc ?_ _)); exact BK165.out) hb); have n2_ := Aside0.mk (below_step (by repeat (first | (with_reducible first | exact HB.out | apply below_alloc | apply pw_below_drewN | apply below_drew1 | refine below_set ?_ GE165.out) | exact HB.out)) hb); have n3_ := Aside0.mk (hbox); have n4_ := Aside0.mk ((by rw [hg]; exact (below_size (by repeat (first | (with_reducible first | exact HB.out | apply below_alloc | apply pw_below_drewN | apply below_drew1 | refine below_set ?_ GE165.out) | exact HB.out))) : w.heap.size ≤ gb172)); have n5_ := Aside0.mk ((by rw [hg]; exact (below_size (by repeat (first | (with_reducible first | exact HB.out | apply below_alloc | apply pw_below_drewN | apply below_drew1 | refine below_set ?_ GE165.out) | exact HB.out))) : w.heap.size ≤ gb172)); have n6_ := Aside0.mk ((by rw [hg]; exact Nat.ne_of_lt (blk_lt (g := gb165) (o := .cells #[.slice (some ad171) l0_0.length c0_0, .int .i64 a0_1] 69 (0, 0)) (by (with_reducible repeat (first | refine blk_drewN ?_ _ | refine blk_drew ?_ | refine blk_alloc ?_ _)); exact BK165.out)) : gb165 ≠ gb172)); have n7_ := Aside0.mk ((by rw [hg]; exact Nat.ne_of_gt (blk_lt (g := gb165) (o := .cells #[.slice (some ad171) l0_0.length c0_0, .int .i64 a0_1] 69 (0, 0)) (by (with_reducible repeat (first | refine blk_drewN ?_ _ | refine blk_drew ?_ | refine blk_alloc ?_ _)); exact BK165.out)) : gb172 ≠ gb165)); clear HO_3; clear BK165; clear HB; have HO_3 := n0_; have BK165 := n1_; have HB := n2_; have BK172 := n3_; have GW172 := n4_; have GE172 := n5_; have NB165_172 := n6_; have NB172_165 := n7_; clear n0_ n1_ n2_ n3_ n4_ n5_ n6_ n7_; clear hb hbox hg; have hnb23 := NB172_165.out; have hnc23 := NB165_172.out; have hcz24_0 : w22.cell? ⟨gb172, 0, none⟩ = some (.int .i64 0) := (blk_cell BK172.out 0).trans rfl; have hcz24_1 : w22.cell? ⟨gb172, 1, none⟩ = some (.int .i64 0) := (blk_cell BK172.out 1).trans rfl; have hcz24_2 : w22.cell? ⟨gb172, 2, none⟩ = some (.int .i64 0) := (blk_cell BK172.out 2).trans rfl; have hcz24_3 : w22.cell? ⟨gb172, 3, none⟩ = some (.string (⟨#[]⟩ : ByteArray)) := (blk_cell BK172.out 3).trans rfl; have hcz24_4 : w22.cell? ⟨gb172, 4, none⟩ = some (.slice none 0 0) := (blk_cell BK172.out 4).trans rfl; have hfz24_0 := blk_frozen BK172.out 0; have hfz24_1 := blk_frozen BK172.out 1; have hfz24_2 := blk_frozen BK172.out 2; have hfz24_3 := blk_frozen BK172.out 3; have hfz24_4 := blk_frozen BK172.out 4))
           go_loopg [30] k1 (fun kq v30 w' => ∃ (x3_2 : List Int) (x30_2 : Int), v30 = .int .i64 x30_2 ∧ Aside0 (tree_Parents.l1 kq x3_2 x22_1 l0_0 (l0_0.length : Int) x22_1 ((rd_T101 l0_0 x22_1).f4) (((rd_T101 l0_0 x22_1).f4).length : Int) x30_2 = some r) ∧ Aside0 (kq ≤ k1) ∧ Aside0 (Kd.R (Kd.int .i64) 3 w' w.heap.size (fun _ => True) (.slice (some ⟨go8, 0, none⟩) x3_1.length co8) x3_2) ∧ Aside0 (w'.heap[gb165]? = some (.cells #[(.slice (some ad171) l0_0.length c0_0), .int .i64 a0_1] 69 (0, 0))) ∧ Aside0 (w'.heap[gb172]? = some (.cells #[.int .i64 ((rd_T101 l0_0 x22_1).f0), .int .i64 ((rd_T101 l0_0 x22_1).f1), .int .i64 ((rd_T101 l0_0 x22_1).f2), .string ((rd_T101 l0_0 x22_1).f3), (.slice A171_4 ((rd_T101 l0_0 x22_1).f4).length c171_4)] 101 (0, 0))) ∧ Aside0 (Below w.heap.size w w'))
           case atStart => exact ⟨(x3_1), (0), (by first | rfl | (simp; done) | (simp [*]; done)), H', ⟨Nat.le_refl _⟩, ⟨by (try simp only [hl3_1]); (with_reducible repeat (first | apply Kd.R_alloc | apply Kd.R_drewN | apply Kd.R_drew)); exact Kd.R_mono (Kd.R_far (p := ⟨gb172, 4, none⟩) (Kd.R_far (p := ⟨gb172, 3, none⟩) (Kd.R_far (p := ⟨gb172, 2, none⟩) (Kd.R_far (p := ⟨gb172, 1, none⟩) (Kd.R_far (p := ⟨gb172, 0, none⟩) (Kd.R_types HO_3.out BK172.out (by decide)) (fun _ hk => hk.2) (.int .i64 ((rd_T101 l0_0 x22_1).f0))) (fun _ hk => hk.2) (.int .i64 ((rd_T101 l0_0 x22_1).f1))) (fun _ hk => hk.2) (.int .i64 ((rd_T101 l0_0 x22_1).f2))) (fun _ hk => hk.2) (.string ((rd_T101 l0_0 x22_1).f3))) (fun _ hk => hk.2) (.slice A171_4 ((rd_T101 l0_0 x22_1).f4).length c171_4)) (fun _ hk => trivial)⟩, ⟨by (try simp only [hl3_1]); (with_reducible repeat (first | refine blk_drewN ?_ _ | refine blk_drew ?_ | refine blk_alloc ?_ _)); refine blk_far ?_ NB165_172.out _; (with_reducible repeat (first | refine blk_drewN ?_ _ | refine blk_drew ?_ | refine blk_alloc ?_ _)); refine blk_far ?_ NB165_172.out _; (with_reducible repeat (first | refine blk_drewN ?_ _ | refine blk_drew ?_ | refine blk_alloc ?_ _)); refine blk_far ?_ NB165_172.out _; (with_reducible repeat (first | refine blk_drewN ?_ _ | refine blk_drew ?_ | refine blk_alloc ?_ _)); refine blk_far ?_ NB165_172.out _; (with_reducible repeat (first | refine blk_drewN ?_ _ | refine blk_drew ?_ | refine blk_alloc ?_ _)); refine blk_far ?_ NB165_172.out _; (with_reducible repeat (first | refine blk_drewN ?_ _ | refine blk_drew ?_ | refine blk_alloc ?_ _)); exact BK165.out⟩, ⟨by (try simp only [hl3_1]); (with_reducible repeat (first | refine blk_drewN ?_ _ | refine blk_drew ?_ | refine blk_alloc ?_ _)); refine blk_put (cs := #[.int .i64 ((rd_T101 l0_0 x22_1).f0), .int .i64 ((rd_T101 l0_0 x22_1).f1), .int .i64 ((rd_T101 l0_0 x22_1).f2), .string ((rd_T101 l0_0 x22_1).f3), .slice none 0 0]) ?_ 4 _ rfl; (with_reducible repeat (first | refine blk_drewN ?_ _ | refine blk_drew ?_ | refine blk_alloc ?_ _)); refine blk_put (cs := #[.int .i64 ((rd_T101 l0_0 x22_1).f0), .int .i64 ((rd_T101 l0_0 x22_1).f1), .int .i64 ((rd_T101 l0_0 x22_1).f2), .string (⟨#[]⟩ : ByteArray), .slice none 0 0]) ?_ 3 _ rfl; (with_reducible repeat (first | refine blk_drewN ?_ _ | refine blk_drew ?_ | refine blk_alloc ?_ _)); refine blk_put (cs := #[.int .i64 ((rd_T101 l0_0 x22_1).f0), .int .i64 ((rd_T101 l0_0 x22_1).f1), .int .i64 0, .string (⟨#[]⟩ : ByteArray), .slice none 0 0]) ?_ 2 _ rfl; (with_reducible repeat (first | refine blk_drewN ?_ _ | refine blk_drew ?_ | refine blk_alloc ?_ _)); refine blk_put (cs := #[.int .i64 ((rd_T101 l0_0 x22_1).f0), .int .i64 0, .int .i64 0, .string (⟨#[]⟩ : ByteArray), .slice none 0 0]) ?_ 1 _ rfl; (with_reducible repeat (first | refine blk_drewN ?_ _ | refine blk_drew ?_ | refine blk_alloc ?_ _)); refine blk_put (cs := #[.int .i64 0, .int .i64 0, .int .i64 0, .string (⟨#[]⟩ : ByteArray), .slice none 0 0]) ?_ 0 _ rfl; (with_reducible repeat (first | refine blk_drewN ?_ _ | refine blk_drew ?_ | refine blk_alloc ?_ _)); exact BK172.out⟩, ⟨by repeat (first | (with_reducible first | exact HB.out | apply below_alloc | apply pw_below_drewN | apply below_drew1 | refine below_set ?_ GE165.out | refine below_set ?_ GE172.out) | exact HB.out)⟩⟩
           case round =>
            clear H'
            try clear c1
            try clear p1
            try clear q1
            try clear hx1
            try clear c2
            try clear p2
            try clear c3
            try clear c4
            try clear c4b0
            try clear c4b1
            try clear c5
            try clear c5b0
            try clear c5b1
            try clear c6
            try clear c6b0
            try clear c7
            try clear c7b0
            try clear p8
            try clear q8
            try clear hx8
            try clear hf8
            try clear c17
            try clear p17
            try clear q17
            try clear hx17
            try clear c19
            try clear c19b0
            try clear c20
            try clear c20b0
            try clear c21
            try clear c21b0
            try clear c23
            try clear hcz10_0
            try clear hcz10_1
            try clear hcz12_0
            try clear hcz12_1
            try clear hcz15_0
            try clear hcz15_1
            try clear hcz18_0
            try clear hcz18_1
            try clear hcz24_0
            try clear hcz24_1
            try clear hcz24_2
            try clear hcz24_3
            try clear hcz24_4
            try clear hfz10_0
            try clear hfz10_1
            try clear hfz12_0
            try clear hfz12_1
            try clear hfz15_0
            try clear hfz15_1
            try clear hfz18_0
            try clear hfz18_1
            try clear hfz24_0
            try clear hfz24_1
            try clear hfz24_2
            try clear hfz24_3
            try clear hfz24_4
            try clear hx171_0
            try clear hx171_1
            try clear hx171_2
            try clear hx171_3
            try clear hx171_4
            try clear hx8_0
            try clear p171
            try clear p2
            try clear p8
            try clear q171
            try clear q8
            obtain ⟨x3_2, x30_2, rfl, HA, HK2, HO_3, BK165, BK172, HB⟩ := hrel
            have hl3_2 := (Kd.R_reads' HO_3.out).1
            rw [hl3_2] at HO_3
            (try simp only [hl3_2])
            (try simp only [hl3_2] at BK165)
            (try simp only [hl3_2] at BK172)
            cases gk with
            | zero => exact absurd HA.out (by simp [tree_Parents.l1])
            | succ k2 =>
             have H := HA.out
             clear HA
             simp only [tree_Parents.l1] at H
             by_cases c25 : x30_2 < (((rd_T101 l0_0 x22_1).f4).length : Int)
             ·rw [if_pos c25] at H
              have c25b0 : decide (x30_2 < (((rd_T101 l0_0 x22_1).f4).length : Int)) = true := decide_eq_true c25
              clear c25
              by_cases c26 : 0 ≤ x30_2
              ·rw [if_pos c26] at H
               have c26b0 : decide (0 ≤ x30_2) = true := decide_eq_true c26
               clear c26
               by_cases c27 : x30_2 < (((rd_T101 l0_0 x22_1).f4).length : Int)
               ·rw [if_pos c27] at H
                have c27b0 : decide (x30_2 < (((rd_T101 l0_0 x22_1).f4).length : Int)) = true := decide_eq_true c27
                clear c27
                by_cases c28 : 0 ≤ (rd ((rd_T101 l0_0 x22_1).f4) x30_2)
                ·rw [if_pos c28] at H
                 have c28b0 : decide (0 ≤ (rd ((rd_T101 l0_0 x22_1).f4) x30_2)) = true := decide_eq_true c28
                 clear c28
                 by_cases c29 : (rd ((rd_T101 l0_0 x22_1).f4) x30_2) < (x3_2.length : Int)
                 ·rw [if_pos c29] at H
                  have c29b0 : decide ((rd ((rd_T101 l0_0 x22_1).f4) x30_2) < (x3_2.length : Int)) = true := decide_eq_true c29
                  clear c29
                  obtain ⟨y174, hy174⟩ : ∃ y_ : List Int, y_ = (x3_2.set ((rd ((rd_T101 l0_0 x22_1).f4) x30_2) : Int).toNat x22_1) := ⟨_, rfl⟩
                  replace H : (tree_Parents.l1 k2 y174 x22_1 l0_0 (l0_0.length : Int) x22_1 ((rd_T101 l0_0 x22_1).f4) (((rd_T101 l0_0 x22_1).f4).length : Int) (wrap64 (x30_2 + 1))) = some r := by first | (rw [hy174]; with_reducible exact H) | (have H2_ := (Option.bind_some _ _).symm.trans H; rw [hy174]; with_reducible exact H2_) | (have H2_ := (Option.bind_some _ _).symm.trans H; with_reducible exact H2_) | with_reducible exact H | (rw [hy174]; exact H) | exact H
                  have Ny174 := Aside0.mk hy174
                  clear hy174
                  have H' := Aside0.mk H
                  clear H
                  have p173 : 0 ≤ (x30_2 : Int) := of_decide_eq_true (by first | (with_reducible assumption) | assumption)
                  have q173 : x30_2 < (((rd_T101 l0_0 x22_1).f4).length : Int) := of_decide_eq_true (by first | (with_reducible assumption) | assumption)
                  obtain ⟨ad173, e173, hx173_0⟩ := Kd.at_int HR171_4.out x30_2 p173 q173
                  cases e173
                  replace hx173_0 := (HB.out.cell (World.block_lt_of_cell? w _ hx173_0)).trans hx173_0
                  replace p173 := eq_true p173
                  replace q173 := eq_true q173
                  have p30 : 0 ≤ ((rd ((rd_T101 l0_0 x22_1).f4) x30_2) : Int) := of_decide_eq_true (by first | (with_reducible assumption) | assumption)
                  have q30 : ((rd ((rd_T101 l0_0 x22_1).f4) x30_2) : Int) < ((x3_2.length : Int) : Int) := of_decide_eq_true (by first | (with_reducible assumption) | assumption)
                  obtain ⟨hx30_0, hf30_0⟩ := Kd.R_celln 0 HO_3.out ((rd ((rd_T101 l0_0 x22_1).f4) x30_2) : Int) p30 q30
                  replace p30 := eq_true p30
                  replace q30 := eq_true q30
                  have HP31 := Kd.R_putg HO_3.out ((rd ((rd_T101 l0_0 x22_1).f4) x30_2) : Int) x22_1
                  go_wp2_with (first | ((with_reducible refine gate_store (t := 3) (p := 37) rfl ?_); refine store_event (t := 3) (p := 37) (v := ?vo_w32) (w1 := (wr.setCell ⟨go8, ((rd ((rd_T101 l0_0 x22_1).f4) x30_2) : Int).toNat, none⟩ (.int .i64 x22_1))) ?hg ?ho ?hn ?hr ?_; (case ho => rfl); (case hg => rfl); (case hn => rfl); (case hr => first | (go_simp; done) | (go_simp; rfl)); intro w32 hw; have hg : wr.grownBy w32 (some go8) := (by rw [hw]; exact HP31.2); have hp_ : Kd.R (Kd.int .i64) 3 w32 w.heap.size (fun _ => True) (.slice (some ⟨go8, 0, none⟩) x3_2.length co8) y174 := (by rw [hw, Ny174.out]; exact HP31.1); clear HP31; have n0_ := Aside0.mk (hp_); have n1_ := Aside0.mk (blk_grown (g := gb165) (o := .cells #[.slice (some ad171) l0_0.length c0_0, .int .i64 a0_1] 69 (0, 0)) (by (with_reducible repeat (first | refine blk_drewN ?_ _ | refine blk_drew ?_ | refine blk_alloc ?_ _)); exact BK165.out) hg (Kd.R_ne HO_3.out BK165.out (by decide))); have n2_ := Aside0.mk (blk_grown (g := gb172) (o := .cells #[.int .i64 ((rd_T101 l0_0 x22_1).f0), .int .i64 ((rd_T101 l0_0 x22_1).f1), .int .i64 ((rd_T101 l0_0 x22_1).f2), .string ((rd_T101 l0_0 x22_1).f3), .slice (some ad173) ((rd_T101 l0_0 x22_1).f4).length c171_4] 101 (0, 0)) (by (with_reducible repeat (first | refine blk_drewN ?_ _ | refine blk_drew ?_ | refine blk_alloc ?_ _)); exact BK172.out) hg (Kd.R_ne HO_3.out BK172.out (by decide))); have n3_ := Aside0.mk ((by rw [hw]; exact below_set (HB.out) GB8.out : Below w.heap.size w w32)); clear HO_3; clear BK165; clear BK172; clear HB; have HO_3 := n0_; have BK165 := n1_; have BK172 := n2_; have HB := n3_; clear n0_ n1_ n2_ n3_; clear hg hw hp_))
                  (try simp only [← hl3_2])
                  go_roundg k2
                  case measure => have := HK1.out; have := HK2.out; omega
                  case rel => exact ⟨(y174), (wrap64 (x30_2 + 1)), (by first | rfl | (simp; done) | (simp [*]; done)), H', ⟨by have := HK1.out; have := HK2.out; omega⟩, ⟨by (try simp only [hl3_1]); (try simp only [hl3_2]); (with_reducible repeat (first | apply Kd.R_alloc | apply Kd.R_drewN | apply Kd.R_drew)); exact HO_3.out⟩, ⟨by (try simp only [hl3_1]); (try simp only [hl3_2]); (with_reducible repeat (first | refine blk_drewN ?_ _ | refine blk_drew ?_ | refine blk_alloc ?_ _)); exact BK165.out⟩, ⟨by (try simp only [hl3_1]); (try simp only [hl3_2]); (with_reducible repeat (first | refine blk_drewN ?_ _ | refine blk_drew ?_ | refine blk_alloc ?_ _)); exact BK172.out⟩, ⟨by repeat (first | (with_reducible first | exact HB.out | apply below_alloc | apply pw_below_drewN | apply below_drew1 | refine below_set ?_ GE165.out | refine below_set ?_ GE172.out) | exact HB.out)⟩⟩
                 ·rw [if_neg c29] at H
                  exact absurd H (by simp)
                ·rw [if_neg c28] at H
                 exact absurd H (by simp)
               ·rw [if_neg c27] at H
                exact absurd H (by simp)
              ·rw [if_neg c26] at H
               exact absurd H (by simp)
             ·rw [if_neg c25] at H
              have c25b0 : decide (x30_2 < (((rd_T101 l0_0 x22_1).f4).length : Int)) = false := decide_eq_false c25
              clear c25
              have H' := Aside0.mk H
              clear H
              go_wp2
              (try simp only [← hl3_1, ← hl3_2])
              go_roundg k2
              case measure => have := HK1.out; have := HK2.out; omega
              case rel => exact ⟨(x3_2), (wrap64 (x22_1 + 1)), (by first | rfl | (simp; done) | (simp [*]; done)), H', ⟨by have := HK1.out; have := HK2.out; omega⟩, ⟨by (try simp only [hl3_1]); (try simp only [hl3_2]); (with_reducible repeat (first | apply Kd.R_alloc | apply Kd.R_drewN | apply Kd.R_drew)); exact HO_3.out⟩, ⟨by (try simp only [hl3_1]); (try simp only [hl3_2]); (with_reducible repeat (first | refine blk_drewN ?_ _ | refine blk_drew ?_ | refine blk_alloc ?_ _)); exact BK165.out⟩, ⟨by repeat (first | (with_reducible first | exact HB.out | apply below_alloc | apply pw_below_drewN | apply below_drew1 | refine below_set ?_ GE165.out | refine below_set ?_ GE172.out) | exact HB.out)⟩⟩
          ·rw [if_neg c21] at H
           exact absurd H (by simp)
         ·rw [if_neg c20] at H
          exact absurd H (by simp)
        ·rw [if_neg c19] at H
         have c19b0 : decide (x22_1 < (l0_0.length : Int)) = false := decide_eq_false c19
         clear c19
         obtain rfl := Option.some.inj H
         go_wp2
         go_ret
         exact ⟨_, by first | rfl | (simp [errW_none, errW_some] <;> rfl) | (simp [*, errW_none, errW_some] <;> rfl), by (with_reducible repeat (first | apply Kd.R_alloc | apply Kd.R_drewN | apply Kd.R_drew)); exact HO_3.out, by repeat (first | (with_reducible first | exact HB.out | apply below_alloc | apply pw_below_drewN | apply below_drew1 | refine below_set ?_ GE165.out) | exact HB.out)⟩
     ·rw [if_neg c7] at H
      exact absurd H (by simp)
    ·rw [if_neg c6] at H
     exact absurd H (by simp)
   ·rw [if_neg c5] at H
    exact absurd H (by simp)
  ·rw [if_neg c4] at H
   exact absurd H (by simp)
 ·replace c3 := Bool.eq_false_iff.mpr c3
  subst c3
  have H1 : (some ([] : List Int)) = some r := by rw [if_neg (show ¬ (false = true) by decide)] at H; exact H
  clear H
  have H := H1
  clear H1
  obtain rfl := Option.some.inj H
  go_enter Try.func71, Try.ntmps71
  go_wp2_with (first | ((with_reducible refine gate_dst (N := 1) rfl ?_); refine box_event ?hg (N := 1) ?hd (cs := #[.slice A0_0 l0_0.length c0_0, .int .i64 a0_1]) (t := 69) ?hr ?_; (case hd => rfl); (case hg => rfl); (case hr => first | (go_simp; done) | (go_simp; rfl)); intro gb165 hg w33 hbox hb; have n0_ := Aside0.mk (below_step (by repeat (first | (with_reducible first | exact HB.out | apply below_alloc | apply pw_below_drewN | apply below_drew1) | exact HB.out)) hb); have n1_ := Aside0.mk (hbox); have n2_ := Aside0.mk ((by rw [hg]; exact (below_size (by repeat (first | (with_reducible first | exact HB.out | apply below_alloc | apply pw_below_drewN | apply below_drew1) | exact HB.out))) : w.heap.size ≤ gb165)); have n3_ := Aside0.mk ((by rw [hg]; exact (below_size (by repeat (first | (with_reducible first | exact HB.out | apply below_alloc | apply pw_below_drewN | apply below_drew1) | exact HB.out))) : w.heap.size ≤ gb165)); clear HB; have HB := n0_; have BK165 := n1_; have GW165 := n2_; have GE165 := n3_; clear n0_ n1_ n2_ n3_; clear hb hbox hg; have hcz34_0 : w33.cell? ⟨gb165, 0, none⟩ = some (.slice A0_0 l0_0.length c0_0) := (blk_cell BK165.out 0).trans rfl; have hcz34_1 : w33.cell? ⟨gb165, 1, none⟩ = some (.int .i64 a0_1) := (blk_cell BK165.out 1).trans rfl; have hfz34_0 := blk_frozen BK165.out 0; have hfz34_1 := blk_frozen BK165.out 1) | ((with_reducible refine gate_callee (f := 64) rfl ?_); refine goesL_ (some 9) rfl rfl Try.func64 (by kernel_rfl) rfl #[.agg #[.slice A0_0 l0_0.length c0_0, .int .i64 a0_1]] rfl (by (try simp only [List.map_toArray, List.map_cons, List.map_nil]); first | done | rfl | (simp only [List.length_drop, List.length_take]; rfl)) ?_; (with_reducible refine (tree_Sound.calls _ _ l0_0 a0_1 false _ ?side1 ?side2 A2.out).mono ?_); (case side1 => repeat (first | exact (Kd.C_below HR0_0.out HB.out) | (with_reducible refine Kd.C_alloc ?_ _) | (with_reducible refine Kd.C_drewN ?_ _) | (with_reducible refine Kd.C_drew ?_))); (case side2 => exact HC0_0.out); rintro e w35 ⟨rfl, hb⟩; refine ⟨_, rfl, ?_⟩; have n0_ := Aside0.mk (blk_below (g := gb165) (o := .cells #[.slice A0_0 l0_0.length c0_0, .int .i64 a0_1] 69 (0, 0)) (by (with_reducible repeat (first | refine blk_drewN ?_ _ | refine blk_drew ?_ | refine blk_alloc ?_ _)); exact BK165.out) hb); have n1_ := Aside0.mk (below_step (by repeat (first | (with_reducible first | exact HB.out | apply below_alloc | apply pw_below_drewN | apply below_drew1 | refine below_set ?_ GE165.out) | exact HB.out)) hb); clear BK165; clear HB; have BK165 := n0_; have HB := n1_; clear n0_ n1_; (try clear hb); (try clear hb2); (try clear hk); (try clear hi)))
  go_ret
  exact ⟨_, by first | rfl | (simp [errW_none, errW_some] <;> rfl) | (simp [*, errW_none, errW_some] <;> rfl), by first | exact Kd.R_nil _ _ _ _ _ | exact Kd.N_nil _ _ _ _ _ | exact Kd.V_nil _ _ _ _ _ | exact Kd.Q_nil _ _ _ _ _ | exact Kd.S_nil _ _ _ _ _, by repeat (first | (with_reducible first | exact HB.out | apply below_alloc | apply pw_below_drewN | apply below_drew1 | refine below_set ?_ GE165.out) | exact HB.out)⟩
end Go.Proofs.Ytkhlfdcjgooogaa.P
