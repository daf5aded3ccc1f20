import Derived.Test.YtkhlfdcjgooogaaTrB
import Derived.Test.YtkhlfdcjgooogaaPf16
import Derived.Test.YtkhlfdcjgooogaaHeapJ
import Derived.Test.YtkhlfdcjgooogaaWWords
import Derived.WalkKit
import Derived.ProofKit
import Derived.OpenShut
import Derived.ShutString
import Derived.ChangeOld
import Derived.Below
import Derived.SizedLaws
import Derived.Deep.Slices
set_option linter.unusedVariables false
set_option linter.unusedSimpArgs false
namespace Go.Proofs.Ytkhlfdcjgooogaa.P
open Go.RowKit Go.Proofs.YtkhlfdcjgooogaaW.PrintWords Go.Proofs.YtkhlfdcjgooogaaW.PrintLast Go.Proofs.YtkhlfdcjgooogaaW.PrintMore
attribute [local go_sem] max2_int min2_int max_two min_two max_three min_three max_four min_four
def runnellaw9_small.l0 : Nat → Int → List (S101) → Int → Option (Bool)
 | 0, _, _, _ => none
 | k + 1, x3, x153000, x153001 => if x3 < (x153000.length : Int) then (if 0 ≤ x3 then (if (((rd_T101 x153000 x3).f4).length : Int) > 300 then (some false) else (if (((rd_T101 x153000 x3).f3).size : Int) > 200 then (some false) else (runnellaw9_small.l0 k (wrap64 (x3 + 1)) x153000 x153001))) else (none)) else (some true)
def runnellaw9_small.f (k : Nat) (l0_0 : List (S101)) (a0_1 : Int) : Option (Bool) := if (l0_0.length : Int) > 300 then (some false) else (runnellaw9_small.l0 k 0 l0_0 a0_1)
set_option maxHeartbeats 8000000 in
set_option maxRecDepth 100000 in
theorem runnellaw9_small.calls (k : Nat) (A0_0 : Option Addr) (c0_0 : Nat) (l0_0 : List (S101)) (a0_1 : Int) (r : Bool) (w : World) (hr0_0 : Kd.C k101 w A0_0 l0_0.length l0_0) (hc0_0 : l0_0.length ≤ c0_0) (h : runnellaw9_small.f k l0_0 a0_1 = some r) :
  Calls Try.prog 28 #[.agg #[.slice A0_0 l0_0.length c0_0, .int .i64 a0_1]] w fun e w' => e = .returned (.bool r) ∧ Below w.heap.size w w' := by
 have hu69 := Try.underlying69
 have HR0_0 := Aside0.mk hr0_0
 have HC0_0 := Aside0.mk hc0_0
 clear hr0_0 hc0_0
 have HB := Aside0.mk (Below.refl w.heap.size w)
 have H : (if (l0_0.length : Int) > 300 then (some false) else (runnellaw9_small.l0 k 0 l0_0 a0_1)) = some r := h
 clear h
 by_cases c2 : (l0_0.length : Int) > 300
 ·rw [if_pos c2] at H
  have c2b0 : decide (300 < (l0_0.length : Int)) = true := decide_eq_true c2
  have c2b1 : decide (300 < l0_0.length) = true := decide_eq_true (by omega)
  clear c2
  obtain rfl := Option.some.inj H
  go_enter Try.func28, Try.ntmps28
  go_wp2_with (first | ((with_reducible refine gate_dst (N := 1) rfl ?_); (try (refine gate_guard (by rfl) ?_; dsimp only)); refine box_event ?hg (N := 1) ?hd (cs := #[.slice A0_0 l0_0.length c0_0, .int .i64 a0_1]) (t := 69) ?hr ?_; (case hd => rfl); (case hg => rfl); (case hr => first | (go_simp; done) | (go_simp; rfl)); intro gb152 hg w3 hbox hb; have n0_ := Aside0.mk (below_step (by repeat (first | (with_reducible first | exact HB.out | apply below_alloc | apply pw_below_drewN | apply below_drew1) | exact HB.out)) hb); have n1_ := Aside0.mk (hbox); have n2_ := Aside0.mk ((by rw [hg]; exact (below_size (by repeat (first | (with_reducible first | exact HB.out | apply below_alloc | apply pw_below_drewN | apply below_drew1) | exact HB.out))) : w.heap.size ≤ gb152)); have n3_ := Aside0.mk ((by rw [hg]; exact (below_size (by repeat (first | (with_reducible first | exact HB.out | apply below_alloc | apply pw_below_drewN | apply below_drew1) | exact HB.out))) : w.heap.size ≤ gb152)); clear HB; have HB := n0_; have BK152 := n1_; have GW152 := n2_; have GE152 := n3_; clear n0_ n1_ n2_ n3_; clear hb hbox hg; have hcz4_0 : w3.cell? ⟨gb152, 0, none⟩ = some (.slice A0_0 l0_0.length c0_0) := (blk_cell BK152.out 0).trans rfl; have hcz4_1 : w3.cell? ⟨gb152, 1, none⟩ = some (.int .i64 a0_1) := (blk_cell BK152.out 1).trans rfl; have hfz4_0 := blk_frozen BK152.out 0; have hfz4_1 := blk_frozen BK152.out 1))
  go_ret
  exact ⟨by first | rfl | (simp [errW_none, errW_some] <;> rfl) | (simp [*, errW_none, errW_some] <;> rfl), by repeat (first | (with_reducible first | exact HB.out | apply below_alloc | apply pw_below_drewN | apply below_drew1 | refine below_set ?_ GE152.out) | exact HB.out)⟩
 ·rw [if_neg c2] at H
  have c2b0 : decide (300 < (l0_0.length : Int)) = false := decide_eq_false c2
  have c2b1 : decide (300 < l0_0.length) = false := decide_eq_false (by omega)
  clear c2
  have H' := Aside0.mk H
  clear H
  go_enter Try.func28, Try.ntmps28
  go_wp2_with (first | ((with_reducible refine gate_dst (N := 1) rfl ?_); (try (refine gate_guard (by rfl) ?_; dsimp only)); refine box_event ?hg (N := 1) ?hd (cs := #[.slice A0_0 l0_0.length c0_0, .int .i64 a0_1]) (t := 69) ?hr ?_; (case hd => rfl); (case hg => rfl); (case hr => first | (go_simp; done) | (go_simp; rfl)); intro gb152 hg w5 hbox hb; have n0_ := Aside0.mk (below_step (by repeat (first | (with_reducible first | exact HB.out | apply below_alloc | apply pw_below_drewN | apply below_drew1) | exact HB.out)) hb); have n1_ := Aside0.mk (hbox); have n2_ := Aside0.mk ((by rw [hg]; exact (below_size (by repeat (first | (with_reducible first | exact HB.out | apply below_alloc | apply pw_below_drewN | apply below_drew1) | exact HB.out))) : w.heap.size ≤ gb152)); have n3_ := Aside0.mk ((by rw [hg]; exact (below_size (by repeat (first | (with_reducible first | exact HB.out | apply below_alloc | apply pw_below_drewN | apply below_drew1) | exact HB.out))) : w.heap.size ≤ gb152)); clear HB; have HB := n0_; have BK152 := n1_; have GW152 := n2_; have GE152 := n3_; clear n0_ n1_ n2_ n3_; clear hb hbox hg; have hcz6_0 : w5.cell? ⟨gb152, 0, none⟩ = some (.slice A0_0 l0_0.length c0_0) := (blk_cell BK152.out 0).trans rfl; have hcz6_1 : w5.cell? ⟨gb152, 1, none⟩ = some (.int .i64 a0_1) := (blk_cell BK152.out 1).trans rfl; have hfz6_0 := blk_frozen BK152.out 0; have hfz6_1 := blk_frozen BK152.out 1))
  go_loopg [3] k (fun kq v3 w' => ∃ (x3_1 : Int), v3 = .int .i64 x3_1 ∧ Aside0 (runnellaw9_small.l0 kq x3_1 l0_0 a0_1 = some r) ∧ Aside0 (kq ≤ k) ∧ Aside0 (w'.heap[gb152]? = some (.cells #[(.slice A0_0 l0_0.length c0_0), .int .i64 a0_1] 69 (0, 0))) ∧ Aside0 (Below w.heap.size w w'))
  case atStart => exact ⟨(0), (by first | rfl | (simp; done) | (simp [*]; done)), H', ⟨Nat.le_refl _⟩, ⟨by (with_reducible repeat (first | refine blk_drewN ?_ _ | refine blk_drew ?_ | refine blk_alloc ?_ _)); exact BK152.out⟩, ⟨by repeat (first | (with_reducible first | exact HB.out | apply below_alloc | apply pw_below_drewN | apply below_drew1 | refine below_set ?_ GE152.out) | exact HB.out)⟩⟩
  case round =>
   clear H'
   try clear c2
   try clear c2b0
   try clear c2b1
   try clear p2
   try clear hcz4_0
   try clear hcz4_1
   try clear hcz6_0
   try clear hcz6_1
   try clear hfz4_0
   try clear hfz4_1
   try clear hfz6_0
   try clear hfz6_1
   obtain ⟨x3_1, rfl, HA, HK1, BK152, HB⟩ := hrel
   cases gk with
   | zero => exact absurd HA.out (by simp [runnellaw9_small.l0])
   | succ k1 =>
    have H := HA.out
    clear HA
    simp only [runnellaw9_small.l0] at H
    by_cases c7 : x3_1 < (l0_0.length : Int)
    ·rw [if_pos c7] at H
     have c7b0 : decide (x3_1 < (l0_0.length : Int)) = true := decide_eq_true c7
     clear c7
     by_cases c8 : 0 ≤ x3_1
     ·rw [if_pos c8] at H
      have c8b0 : decide (0 ≤ x3_1) = true := decide_eq_true c8
      clear c8
      by_cases c9 : (((rd_T101 l0_0 x3_1).f4).length : Int) > 300
      ·rw [if_pos c9] at H
       have c9b0 : decide (300 < (((rd_T101 l0_0 x3_1).f4).length : Int)) = true := decide_eq_true c9
       have c9b1 : decide (300 < ((rd_T101 l0_0 x3_1).f4).length) = true := decide_eq_true (by omega)
       clear c9
       obtain rfl := Option.some.inj H
       have hcz10_0 : wr.cell? ⟨gb152, 0, none⟩ = some (.slice A0_0 l0_0.length c0_0) := (blk_cell BK152.out 0).trans rfl
       have hcz10_1 : wr.cell? ⟨gb152, 1, none⟩ = some (.int .i64 a0_1) := (blk_cell BK152.out 1).trans rfl
       have hfz10_0 := blk_frozen BK152.out 0
       have hfz10_1 := blk_frozen BK152.out 1
       have p153 : 0 ≤ (x3_1 : Int) := of_decide_eq_true (by first | (with_reducible assumption) | assumption)
       have q153 : x3_1 < (l0_0.length : Int) := of_decide_eq_true (by first | (with_reducible assumption) | assumption)
       obtain ⟨ad153, A153_4, c153_4, e153, hx153_0, hx153_1, hx153_2, hx153_3, hx153_4, hl153_4, hi153_4⟩ := at_T101 HR0_0.out x3_1 p153 q153
       cases e153
       replace hx153_0 := (HB.out.cell (World.block_lt_of_cell? w _ hx153_0)).trans hx153_0
       replace hx153_1 := (HB.out.cell (World.block_lt_of_cell? w _ hx153_1)).trans hx153_1
       replace hx153_2 := (HB.out.cell (World.block_lt_of_cell? w _ hx153_2)).trans hx153_2
       replace hx153_3 := (HB.out.cell (World.block_lt_of_cell? w _ hx153_3)).trans hx153_3
       replace hx153_4 := (HB.out.cell (World.block_lt_of_cell? w _ hx153_4)).trans hx153_4
       have HR153_4 := Aside0.mk hi153_4
       have HC153_4 := Aside0.mk hl153_4
       clear hi153_4 hl153_4
       replace p153 := eq_true p153
       replace q153 := eq_true q153
       go_wp2
       go_ret
       exact ⟨by first | rfl | (simp [errW_none, errW_some] <;> rfl) | (simp [*, errW_none, errW_some] <;> rfl), by repeat (first | (with_reducible first | exact HB.out | apply below_alloc | apply pw_below_drewN | apply below_drew1 | refine below_set ?_ GE152.out) | exact HB.out)⟩
      ·rw [if_neg c9] at H
       have c9b0 : decide (300 < (((rd_T101 l0_0 x3_1).f4).length : Int)) = false := decide_eq_false c9
       have c9b1 : decide (300 < ((rd_T101 l0_0 x3_1).f4).length) = false := decide_eq_false (by omega)
       clear c9
       by_cases c11 : (((rd_T101 l0_0 x3_1).f3).size : Int) > 200
       ·rw [if_pos c11] at H
        have c11b0 : decide (200 < (((rd_T101 l0_0 x3_1).f3).size : Int)) = true := decide_eq_true c11
        have c11b1 : decide (200 < ((rd_T101 l0_0 x3_1).f3).size) = true := decide_eq_true (by omega)
        clear c11
        obtain rfl := Option.some.inj H
        have hcz12_0 : wr.cell? ⟨gb152, 0, none⟩ = some (.slice A0_0 l0_0.length c0_0) := (blk_cell BK152.out 0).trans rfl
        have hcz12_1 : wr.cell? ⟨gb152, 1, none⟩ = some (.int .i64 a0_1) := (blk_cell BK152.out 1).trans rfl
        have hfz12_0 := blk_frozen BK152.out 0
        have hfz12_1 := blk_frozen BK152.out 1
        have p153 : 0 ≤ (x3_1 : Int) := of_decide_eq_true (by first | (with_reducible assumption) | assumption)
        have q153 : x3_1 < (l0_0.length : Int) := of_decide_eq_true (by first | (with_reducible assumption) | assumption)
        obtain ⟨ad153, A153_4, c153_4, e153, hx153_0, hx153_1, hx153_2, hx153_3, hx153_4, hl153_4, hi153_4⟩ := at_T101 HR0_0.out x3_1 p153 q153
        cases e153
        replace hx153_0 := (HB.out.cell (World.block_lt_of_cell? w _ hx153_0)).trans hx153_0
        replace hx153_1 := (HB.out.cell (World.block_lt_of_cell? w _ hx153_1)).trans hx153_1
        replace hx153_2 := (HB.out.cell (World.block_lt_of_cell? w _ hx153_2)).trans hx153_2
        replace hx153_3 := (HB.out.cell (World.block_lt_of_cell? w _ hx153_3)).trans hx153_3
        replace hx153_4 := (HB.out.cell (World.block_lt_of_cell? w _ hx153_4)).trans hx153_4
        have HR153_4 := Aside0.mk hi153_4
        have HC153_4 := Aside0.mk hl153_4
        clear hi153_4 hl153_4
        replace p153 := eq_true p153
        replace q153 := eq_true q153
        have p154 : 0 ≤ (x3_1 : Int) := of_decide_eq_true (by first | (with_reducible assumption) | assumption)
        have q154 : x3_1 < (l0_0.length : Int) := of_decide_eq_true (by first | (with_reducible assumption) | assumption)
        obtain ⟨ad154, A154_4, c154_4, e154, hx154_0, hx154_1, hx154_2, hx154_3, hx154_4, hl154_4, hi154_4⟩ := at_T101 HR0_0.out x3_1 p154 q154
        obtain rfl : ad153 = ad154 := (by injection e154)
        replace hx154_0 := (HB.out.cell (World.block_lt_of_cell? w _ hx154_0)).trans hx154_0
        replace hx154_1 := (HB.out.cell (World.block_lt_of_cell? w _ hx154_1)).trans hx154_1
        replace hx154_2 := (HB.out.cell (World.block_lt_of_cell? w _ hx154_2)).trans hx154_2
        replace hx154_3 := (HB.out.cell (World.block_lt_of_cell? w _ hx154_3)).trans hx154_3
        replace hx154_4 := (HB.out.cell (World.block_lt_of_cell? w _ hx154_4)).trans hx154_4
        have HR154_4 := Aside0.mk hi154_4
        have HC154_4 := Aside0.mk hl154_4
        clear hi154_4 hl154_4
        replace p154 := eq_true p154
        replace q154 := eq_true q154
        have ea_ := Option.some.inj (hx153_4.symm.trans hx154_4)
        injection ea_ with ea_ en_ ec_
        subst ea_
        subst ec_
        clear en_
        go_wp2
        go_ret
        exact ⟨by first | rfl | (simp [errW_none, errW_some] <;> rfl) | (simp [*, errW_none, errW_some] <;> rfl), by repeat (first | (with_reducible first | exact HB.out | apply below_alloc | apply pw_below_drewN | apply below_drew1 | refine below_set ?_ GE152.out) | exact HB.out)⟩
       ·rw [if_neg c11] at H
        have c11b0 : decide (200 < (((rd_T101 l0_0 x3_1).f3).size : Int)) = false := decide_eq_false c11
        have c11b1 : decide (200 < ((rd_T101 l0_0 x3_1).f3).size) = false := decide_eq_false (by omega)
        clear c11
        have H' := Aside0.mk H
        clear H
        have hcz13_0 : wr.cell? ⟨gb152, 0, none⟩ = some (.slice A0_0 l0_0.length c0_0) := (blk_cell BK152.out 0).trans rfl
        have hcz13_1 : wr.cell? ⟨gb152, 1, none⟩ = some (.int .i64 a0_1) := (blk_cell BK152.out 1).trans rfl
        have hfz13_0 := blk_frozen BK152.out 0
        have hfz13_1 := blk_frozen BK152.out 1
        have p153 : 0 ≤ (x3_1 : Int) := of_decide_eq_true (by first | (with_reducible assumption) | assumption)
        have q153 : x3_1 < (l0_0.length : Int) := of_decide_eq_true (by first | (with_reducible assumption) | assumption)
        obtain ⟨ad153, A153_4, c153_4, e153, hx153_0, hx153_1, hx153_2, hx153_3, hx153_4, hl153_4, hi153_4⟩ := at_T101 HR0_0.out x3_1 p153 q153
        cases e153
        replace hx153_0 := (HB.out.cell (World.block_lt_of_cell? w _ hx153_0)).trans hx153_0
        replace hx153_1 := (HB.out.cell (World.block_lt_of_cell? w _ hx153_1)).trans hx153_1
        replace hx153_2 := (HB.out.cell (World.block_lt_of_cell? w _ hx153_2)).trans hx153_2
        replace hx153_3 := (HB.out.cell (World.block_lt_of_cell? w _ hx153_3)).trans hx153_3
        replace hx153_4 := (HB.out.cell (World.block_lt_of_cell? w _ hx153_4)).trans hx153_4
        have HR153_4 := Aside0.mk hi153_4
        have HC153_4 := Aside0.mk hl153_4
        clear hi153_4 hl153_4
        replace p153 := eq_true p153
        replace q153 := eq_true q153
        have p154 : 0 ≤ (x3_1 : Int) := of_decide_eq_true (by first | (with_reducible assumption) | assumption)
        have q154 : x3_1 < (l0_0.length : Int) := of_decide_eq_true (by first | (with_reducible assumption) | assumption)
        obtain ⟨ad154, A154_4, c154_4, e154, hx154_0, hx154_1, hx154_2, hx154_3, hx154_4, hl154_4, hi154_4⟩ := at_T101 HR0_0.out x3_1 p154 q154
        obtain rfl : ad153 = ad154 := (by injection e154)
        replace hx154_0 := (HB.out.cell (World.block_lt_of_cell? w _ hx154_0)).trans hx154_0
        replace hx154_1 := (HB.out.cell (World.block_lt_of_cell? w _ hx154_1)).trans hx154_1
        replace hx154_2 := (HB.out.cell (World.block_lt_of_cell? w _ hx154_2)).trans hx154_2
        replace hx154_3 := (HB.out.cell (World.block_lt_of_cell? w _ hx154_3)).trans hx154_3
        replace hx154_4 := (HB.out.cell (World.block_lt_of_cell? w _ hx154_4)).trans hx154_4
        have HR154_4 := Aside0.mk hi154_4
        have HC154_4 := Aside0.mk hl154_4
        clear hi154_4 hl154_4
        replace p154 := eq_true p154
        replace q154 := eq_true q154
        have ea_ := Option.some.inj (hx153_4.symm.trans hx154_4)
        injection ea_ with ea_ en_ ec_
        subst ea_
        subst ec_
        clear en_
        go_wp2
        go_roundg k1
        case measure => have := HK1.out; omega
        case rel => exact ⟨(wrap64 (x3_1 + 1)), (by first | rfl | (simp; done) | (simp [*]; done)), H', ⟨by have := HK1.out; omega⟩, ⟨by (with_reducible repeat (first | refine blk_drewN ?_ _ | refine blk_drew ?_ | refine blk_alloc ?_ _)); exact BK152.out⟩, ⟨by repeat (first | (with_reducible first | exact HB.out | apply below_alloc | apply pw_below_drewN | apply below_drew1 | refine below_set ?_ GE152.out) | exact HB.out)⟩⟩
     ·rw [if_neg c8] at H
      exact absurd H (by simp)
    ·rw [if_neg c7] at H
     have c7b0 : decide (x3_1 < (l0_0.length : Int)) = false := decide_eq_false c7
     clear c7
     obtain rfl := Option.some.inj H
     have hcz14_0 : wr.cell? ⟨gb152, 0, none⟩ = some (.slice A0_0 l0_0.length c0_0) := (blk_cell BK152.out 0).trans rfl
     have hcz14_1 : wr.cell? ⟨gb152, 1, none⟩ = some (.int .i64 a0_1) := (blk_cell BK152.out 1).trans rfl
     have hfz14_0 := blk_frozen BK152.out 0
     have hfz14_1 := blk_frozen BK152.out 1
     go_wp2
     go_ret
     exact ⟨by first | rfl | (simp [errW_none, errW_some] <;> rfl) | (simp [*, errW_none, errW_some] <;> rfl), by repeat (first | (with_reducible first | exact HB.out | apply below_alloc | apply pw_below_drewN | apply below_drew1 | refine below_set ?_ GE152.out) | exact HB.out)⟩
theorem small_l (ns : List S101) (root : Int) (hn : ns.length ≤ 300) : ∀ (d i : Nat), i + d = ns.length → ∃ b, runnellaw9_small.l0 (d + 1) (i : Int) ns root = some b
 | 0, i, hd => ⟨true, by simp only [runnellaw9_small.l0]; rw [if_neg (by omega)]⟩
 | d + 1, i, hd => by
  obtain ⟨b, hb⟩ := small_l ns root hn d (i + 1) (by omega)
  have hw : wrap64 ((i : Int) + 1) = ((i + 1 : Nat) : Int) := by unfold wrap64; omega
  rw [runnellaw9_small.l0, if_pos (by omega), if_pos (by omega), hw, hb]
  split
  ·exact ⟨_, rfl⟩
  ·split
   ·exact ⟨_, rfl⟩
   ·exact ⟨_, rfl⟩
theorem small_some (ns : List S101) (root : Int) : ∃ k b, runnellaw9_small.f k ns root = some b := by
 by_cases h : (ns.length : Int) > 300
 ·exact ⟨0, false, by unfold runnellaw9_small.f; rw [if_pos h]⟩
 ·obtain ⟨b, hb⟩ := small_l ns root (by omega) ns.length 0 (by omega)
  exact ⟨ns.length + 1, b, by unfold runnellaw9_small.f; rw [if_neg h]; exact hb⟩
set_option maxRecDepth 100000 in
set_option maxHeartbeats 16000000 in
theorem ValueTypes_is (At : Option Addr) (ct : Nat) (ns : List S101) (root : Int) (hsz : ∀ x ∈ ns, x.f3.size ≤ 140737488351232) (As : Option Addr) (cs : Nat) (seeds : List Int) (w : World) (hC : Kd.C k101 w At ns.length ns) (hct : ns.length ≤ ct) (hE : Env w) (hS : Kd.C (Kd.int .i64) w As seeds.length seeds) (hcs : seeds.length ≤ cs) :
  Calls Try.prog 8 #[.agg #[.slice At ns.length ct, .int .i64 root], .slice As seeds.length cs] w fun e w' => e = .returned (.bool true) ∧ Below w.heap.size w w' := by
 obtain ⟨c, hck, hcc⟩ : ∃ c : Int, (∀ W, Below w.heap.size w W → Calls Try.prog 29 #[.agg #[.slice At ns.length ct, .int .i64 root]] W fun e w' => ∃ a : Int, e = .returned (.tuple #[.int .i64 a, .int .i64 c]) ∧ Below W.heap.size W w') ∧ (c = 0 → rtB ns root true ∧ ∃ ol, Rt ns root ol ∧ chkF ns ol = 0) := by
  rcases rt_cases ns root hsz with h | ⟨h, ol, hR⟩
  ·exact ⟨1, fun W hb => (Check_no At ct ns root h W (Kd.C_below hC hb) hct (hE.below hb hE.six)).mono (fun _ _ ⟨h1, h2⟩ => ⟨0, h1, h2⟩), fun h => absurd h (by decide)⟩
  ·exact ⟨chkF ns ol, fun W hb => Check_yes At ct ns root ol hR h W (Kd.C_below hC hb) hct (hE.below hb hE.six), fun h0 => ⟨h, ol, hR, h0⟩⟩
 obtain ⟨kf, sm, hsm⟩ := small_some ns root
 obtain ⟨W0, hW0⟩ : ∃ W0, W0 = w.alloc (.cells #[.slice At ns.length ct, .int .i64 root] 69) := ⟨_, rfl⟩
 have HB0 := Lib.hid (box_is At ct ns root w W0 hW0).1
 have X0 := Lib.hid (box_is At ct ns root w W0 hW0).2
 have HW0 := Lib.hid hW0
 have HC := Lib.hid hC
 have HS := Lib.hid hS
 have HE := Lib.hid hE
 have HCK := Lib.hid hck
 have HCC := Lib.hid hcc
 have HSM := Lib.hid hsm
 clear hW0 hC hS hE hck hcc hsm
 go_enter Try.func8, Try.ntmps8
 go_wp2_with fail
 rw [← HW0.out]
 refine (runnellaw9_shown.calls true W0 rfl).mono ?_
 rintro e_ W1 ⟨rfl, hb_⟩
 have HB1 := Lib.hid (below_step HB0.out hb_)
 have X1 := Lib.hid (blk_below X0.out hb_)
 clear hb_ HB0 X0 HW0
 have c0 : W1.cell? ⟨w.heap.size, 0, none⟩ = some (.slice At ns.length ct) := (blk_cell X1.out 0).trans rfl
 have c1 : W1.cell? ⟨w.heap.size, 1, none⟩ = some (.int .i64 root) := (blk_cell X1.out 1).trans rfl
 go_wp2_with fail
 refine (runnellaw9_small.calls kf At ct ns root sm W1 (Kd.C_below HC.out HB1.out) hct HSM.out).mono ?_
 rintro e_ W2 ⟨rfl, hb_⟩
 have HB2 := Lib.hid (below_step HB1.out hb_)
 have X2 := Lib.hid (blk_below X1.out hb_)
 clear hb_ HB1 X1 HSM c0 c1
 have c0 : W2.cell? ⟨w.heap.size, 0, none⟩ = some (.slice At ns.length ct) := (blk_cell X2.out 0).trans rfl
 have c1 : W2.cell? ⟨w.heap.size, 1, none⟩ = some (.int .i64 root) := (blk_cell X2.out 1).trans rfl
 go_wp2_with fail
 refine (HCK.out W2 HB2.out).mono ?_
 rintro e_ W3 ⟨ea, rfl, hb_⟩
 have HB3 := Lib.hid (below_step HB2.out hb_)
 have X3 := Lib.hid (blk_below X2.out hb_)
 clear hb_ HB2 X2 HCK c0 c1
 cases sm
 ·go_wp2_with fail
  go_ret
  exact ⟨rfl, HB3.out⟩
 by_cases hc : c = 0
 rotate_left
 ·go_wp2_with fail
  go_ret
  exact ⟨rfl, HB3.out⟩
 by_cases hl : (60 : Int) < seeds.length
 ·subst hc
  go_wp2_with fail
  go_ret
  exact ⟨rfl, HB3.out⟩
 obtain ⟨hb, ol, hR, hchk⟩ := HCC.out hc
 subst hc
 have HR := Lib.hid hR
 have HRB := Lib.hid hb
 have HCH := Lib.hid hchk
 have hn4 := hR.fit.1
 have hs60 : seeds.length ≤ 60 := by omega
 clear hR hb hchk HCC
 go_wp2_with fail
 obtain ⟨Bh, hBh⟩ : ∃ Bh, Bh = W3.heap.size := ⟨_, rfl⟩
 have hHA := HA.empty (W := W3.alloc (.cells #[.slice none 0 0, .int .i64 0] 47)) (B := W3.heap.size) (heap_alloc_new W3 _)
 have HNEW := hnew 3 hHA (by decide)
 have hb4 := below_alloc HB3.out (.cells #[.slice none 0 0, .int .i64 0] 47)
 have x4 := blk_alloc X3.out (.cells #[.slice none 0 0, .int .i64 0] 47)
 have hle3 : w.heap.size ≤ W3.heap.size := HB3.out.size
 have hlt3 : w.heap.size < W3.heap.size := blk_lt X3.out
 obtain ⟨W4, hW4⟩ : ∃ W4, W4 = W3.alloc (.cells #[.slice none 0 0, .int .i64 0] 47) := ⟨_, rfl⟩
 have hsz4 : W4.heap.size = W3.heap.size + 1 := by rw [hW4]; simp
 rw [← hW4] at HNEW hb4 x4 ⊢
 rw [← hBh] at HNEW hle3 hlt3 hsz4 ⊢
 have HB4 := Lib.hid hb4
 have X4 := Lib.hid x4
 clear hHA hb4 x4 hW4 hBh HB3 X3
 refine HNEW.mono ?_
 rintro e_ W5 ⟨rfl, hha_, hch_⟩
 have HB5 := Lib.hid (HB4.out.trans (hch_.below (n := w.heap.size) (by omega) (fun x hx he => by have he : _ = Bh := he; omega)))
 have hx5 : W5.heap[w.heap.size]? = some (.cells #[.slice At ns.length ct, .int .i64 root] 69 (0, 0)) := (hch_.block _ (by omega) (fun he => by have he : _ = Bh := he; omega)).trans X4.out
 obtain ⟨ok, hok⟩ : ∃ ok, ok = ext (fun k => k = Bh) W4 W5 := ⟨_, rfl⟩
 rw [← hok] at hha_
 have HHA := Lib.hid hha_
 have X5 := Lib.hid hx5
 clear hha_ hch_ hx5 hok HNEW HB4 X4 hsz4
 have hK3 : newK [] 3 = 3 := by decide
 have hN3 : newN [] 3 = 1 := by decide
 rw [hK3, hN3]
 clear hK3 hN3
 obtain ⟨L, hL⟩ : ∃ L, L = newL [] 3 := ⟨_, rfl⟩
 have hLc : cellsOf L ≤ 262144 := by rw [hL]; decide
 rw [← hL] at HHA
 obtain ⟨ga, hga⟩ : ∃ ga, ga = W5.heap.size := ⟨_, rfl⟩
 have hga1 : w.heap.size ≤ ga := by rw [hga]; exact HB5.out.size
 have HGA := Lib.hid hga
 have HLC := Lib.hid hLc
 obtain ⟨W6, hW6⟩ : ∃ W6, W6 = (W5.alloc (.cells #[.int .i64 3, .int .i64 1] 23)) := ⟨_, rfl⟩
 have hb6 : Below w.heap.size w W6 := by rw [hW6]; exact below_alloc HB5.out _
 have x6 : W6.heap[w.heap.size]? = some (.cells #[.slice At ns.length ct, .int .i64 root] 69 (0, 0)) := by rw [hW6]; exact blk_alloc X5.out _
 have y6 : W6.heap[ga]? = some (.cells #[.int .i64 3, .int .i64 1] 23 (0, 0)) := by rw [hW6, HGA.out]; exact heap_alloc_new W5 _
 have h6 : HA W6 Bh ok L := by rw [hW6]; exact HHA.out.below (below_alloc (Below.refl _ _) _)
 have HB6 := Lib.hid hb6
 have X6 := Lib.hid x6
 have Y6 := Lib.hid y6
 have HHA6 := Lib.hid h6
 have HW6 := Lib.hid hW6
 clear hL hga hLc hb6 x6 y6 h6 hW6 HB5 X5 HHA
 go_wp2_with fail
 rw [← HGA.out, ← HW6.out]
 go_loopg [13] (ns.length + 1) (fun kq v13 W => ∃ i : Nat, v13 = .int .i64 i ∧ i ≤ ns.length ∧ Hid (i + kq = ns.length + 1) ∧ Hid (Below w.heap.size w W) ∧ Hid (W.heap[w.heap.size]? = some (.cells #[.slice At ns.length ct, .int .i64 root] 69 (0, 0))) ∧ Hid (W.heap[ga]? = some (.cells #[.int .i64 3, .int .i64 1] 23 (0, 0))) ∧ Hid (HA W Bh ok L))
 case atStart => exact ⟨0, rfl, Nat.zero_le _, Lib.hid (by omega), HB6, X6, Y6, HHA6⟩
 case round =>
  obtain ⟨i, rfl, hi, HN, HB, X0, Y0, HH⟩ := hrel
  have c0 : wr.cell? ⟨w.heap.size, 0, none⟩ = some (.slice At ns.length ct) := (blk_cell X0.out 0).trans rfl
  have c1 : wr.cell? ⟨w.heap.size, 1, none⟩ = some (.int .i64 root) := (blk_cell X0.out 1).trans rfl
  by_cases hlt : i < ns.length
  ·have HTY := Lib.hid (Type_is At ct ns root ol HR.out HRB.out (i : Int) (by omega) (by omega) wr (Kd.C_below HC.out HB.out) hct (HE.out.below HB.out HE.out.six))
   have hkx := expr_kinds ns ol i
   have hkk := fun h1 h2 h3 => eval_kind ns ol seeds (3, 1) rfl L (ns.length - 1) (i : Int) h1 h2 h3
   have hro := eval_rOk ns ol (worthF ns ol i seeds (3, 1) ns.length) L ns.length (i : Int)
   rw [show ns.length - 1 + 1 = ns.length from by omega] at hkk
   have hEV := fun h1 h2 (W : World) (An : Option Addr) (cn : Nat) (hb : Below wr.heap.size wr W) (hN : Kd.C kNV W An (worthF ns ol i seeds (3, 1) ns.length).length (worthF ns ol i seeds (3, 1) ns.length)) (hcn : (worthF ns ol i seeds (3, 1) ns.length).length ≤ cn) => Eval_yes At ct ns root ol HR.out HRB.out HCH.out An cn (worthF ns ol i seeds (3, 1) ns.length) Bh ok L (i : Int) (by omega) (by omega) h1 h2 W ⟨Kd.C_below HC.out (below_step HB.out hb), hct, hN, hcn, by have := worthF_len ns ol i seeds (3, 1) ns.length; omega, HH.out.below hb, HLC.out, HE.out.below (below_step HB.out hb) HE.out.six⟩
   have HWO := Lib.hid (fun (W : World) (hb : Below wr.heap.size wr W) => worth_is At ct ns root ol HR.out HRB.out (i : Int) (by omega) (by omega) As cs seeds hs60 (3, 1) W (Kd.C_below HC.out (below_step HB.out hb)) hct (HE.out.below (below_step HB.out hb) HE.out.six) (Kd.C_below HS.out (below_step HB.out hb)) hcs)
   obtain ⟨nl, hnl⟩ : ∃ nl, nl = worthF ns ol i seeds (3, 1) ns.length := ⟨_, rfl⟩
   rw [← hnl] at hkk hro hEV HWO
   obtain ⟨r, hr⟩ : ∃ r, r = evalF ns ol nl L ns.length (i : Int) := ⟨_, rfl⟩
   rw [← hr] at hkk hro hEV
   obtain ⟨ra, rb, rc⟩ := r
   dsimp only at hkk hEV
   obtain ⟨k, hk⟩ : ∃ k, k = exprF ns ol (i : Int) := ⟨_, rfl⟩
   rw [← hk] at HTY hkx hkk
   have HKX := Lib.hid hkx
   have HKK := Lib.hid hkk
   have HRO := Lib.hid hro
   have HEV0 := Lib.hid hEV
   clear hnl hr hk hkx hkk hro hEV
   go_wp2_with fail
   refine HTY.out.mono ?_
   rintro e_ W1 ⟨rfl, hb_⟩
   have HB1 := Lib.hid (below_step HB.out hb_)
   have HBr := Lib.hid (hb_)
   have X1 := Lib.hid (blk_below X0.out hb_)
   have Y1 := Lib.hid (blk_below Y0.out hb_)
   have HH1 := Lib.hid (HH.out.below hb_)
   clear hb_ c0 c1 HTY
   by_cases hk0 : k = 0
   ·subst hk0
    go_wp2_with fail
    go_roundg (gk - 1)
    case measure => have := HN.out; omega
    case rel => exact ⟨i + 1, by norm_cast, hlt, Lib.hid (by have := HN.out; omega), HB1, X1, Y1, HH1⟩
   ·have hkb := HKX.out hk0
    have HEV := Lib.hid (fun (W : World) (An : Option Addr) (cn : Nat) (hb : Below W1.heap.size W1 W) hN hcn => HEV0.out hkb.1 hkb.2 W An cn (below_step HBr.out hb) hN hcn)
    have HWO1 := Lib.hid (fun (W : World) (hb : Below W1.heap.size W1 W) => HWO.out W (below_step HBr.out hb))
    have HK := Lib.hid (fun h => HKK.out hkb.1 hkb.2 hk0 h)
    clear HEV0 HKK HKX hkb HWO HBr HB X0 Y0 HH
    go_wp2_with fail
    have c0 : W1.cell? ⟨w.heap.size, 0, none⟩ = some (.slice At ns.length ct) := (blk_cell X1.out 0).trans rfl
    have c1 : W1.cell? ⟨w.heap.size, 1, none⟩ = some (.int .i64 root) := (blk_cell X1.out 1).trans rfl
    have ca0 : W1.cell? ⟨ga, 0, none⟩ = some (.int .i64 3) := (blk_cell Y1.out 0).trans rfl
    have ca1 : W1.cell? ⟨ga, 1, none⟩ = some (.int .i64 1) := (blk_cell Y1.out 1).trans rfl
    refine start_ (n := 15) (S := fun w' => w'.cell? ⟨w.heap.size, 0, none⟩ = some (.slice At ns.length ct) ∧ w'.cell? ⟨w.heap.size, 1, none⟩ = some (.int .i64 root) ∧ w'.cell? ⟨ga, 0, none⟩ = some (.int .i64 3) ∧ w'.cell? ⟨ga, 1, none⟩ = some (.int .i64 1)) (ds := [13]) #[false, false, false, false, false, false, false, false, false, false, false, false, false, false, false] (by kernel_rfl) rfl rfl ⟨cel_drew c0, cel_drew c1, cel_drew ca0, cel_drew ca1⟩ (fun hHeld => ?_)
    refine pure_ (i := 1) (N := some 63) (v := ?_) (a' := ?_) #[false, true, false, false, false, false, false, false, false, false, false, false, false, false, false] rfl rfl (by kernel_rfl) (fun _ _ _ h => h) (Or.inl ⟨by rfl, ?_⟩) ?_ ?_
    rotate_left
    ·intro w'
     go_simp
     with_reducible rfl
    rotate_left
    ·simp only [Act.put, List.setIfInBounds_toArray, List.set_cons_zero, List.set_cons_succ, i64_w, i32_w]
     rfl
    refine pure_ (i := 3) (N := some 65) (v := ?_) (a' := ?_) #[false, true, false, true, false, false, false, false, false, false, false, false, false, false, false] rfl rfl (by kernel_rfl) (fun _ _ _ h => h) (Or.inl ⟨by rfl, ?_⟩) ?_ ?_
    rotate_left
    ·intro w'
     go_simp
     with_reducible rfl
    rotate_left
    ·simp only [Act.put, List.setIfInBounds_toArray, List.set_cons_zero, List.set_cons_succ, i64_w, i32_w]
     rfl
    refine pure_ (i := 4) (N := some 66) (v := ?_) (a' := ?_) #[false, true, false, true, true, false, false, false, false, false, false, false, false, false, false] rfl rfl (by kernel_rfl) (fun _ _ _ h => h) (Or.inl ⟨by rfl, ?_⟩) ?_ ?_
    rotate_left
    ·intro w'
     go_simp
     with_reducible rfl
    rotate_left
    ·simp only [Act.put, List.setIfInBounds_toArray, List.set_cons_zero, List.set_cons_succ, i64_w, i32_w]
     rfl
    refine pure_ (i := 7) (N := some 69) (v := ?_) (a' := ?_) #[false, true, false, true, true, false, false, true, false, false, false, false, false, false, false] rfl rfl (by kernel_rfl) (fun _ _ _ h => h) (Or.inl ⟨by rfl, ?_⟩) ?_ ?_
    rotate_left
    ·intro w'
     go_simp
     with_reducible rfl
    rotate_left
    ·simp only [Act.put, List.setIfInBounds_toArray, List.set_cons_zero, List.set_cons_succ, i64_w, i32_w]
     rfl
    refine take_ (i := 0) (N := some 62) (v := ?_) (a' := ?_) #[true, true, false, true, true, false, false, true, false, false, false, false, false, false, false] rfl rfl (by kernel_rfl) (fun _ _ _ h => h) (Or.inl ⟨by rfl, ?_⟩) hHeld ?_ ?_
    rotate_left
    ·rintro w' ⟨s0, s1, s2, s3⟩
     go_simp
     with_reducible rfl
    rotate_left
    ·simp only [Act.put, List.setIfInBounds_toArray, List.set_cons_zero, List.set_cons_succ, i64_w, i32_w]
     rfl
    refine take_ (i := 2) (N := some 64) (v := ?_) (a' := ?_) #[true, true, true, true, true, false, false, true, false, false, false, false, false, false, false] rfl rfl (by kernel_rfl) (fun _ _ _ h => h) (Or.inl ⟨by rfl, ?_⟩) hHeld ?_ ?_
    rotate_left
    ·rintro w' ⟨s0, s1, s2, s3⟩
     go_simp
     with_reducible rfl
    rotate_left
    ·simp only [Act.put, List.setIfInBounds_toArray, List.set_cons_zero, List.set_cons_succ, i64_w, i32_w]
     rfl
    refine take_ (i := 5) (N := some 67) (v := ?_) (a' := ?_) #[true, true, true, true, true, true, false, true, false, false, false, false, false, false, false] rfl rfl (by kernel_rfl) (fun _ _ _ h => h) (Or.inl ⟨by rfl, ?_⟩) hHeld ?_ ?_
    rotate_left
    ·rintro w' ⟨s0, s1, s2, s3⟩
     go_simp
     with_reducible rfl
    rotate_left
    ·simp only [Act.put, List.setIfInBounds_toArray, List.set_cons_zero, List.set_cons_succ, i64_w, i32_w]
     rfl
    refine join_ (σ := Nat × Value) 2 #[true, true, true, true, true, true, true, true, true, true, true, true, true, false, false] (fun s => [(68, s.2), (70, .tuple #[.agg #[.int .i64 ra, .int .i64 rb], .int .i64 rc]), (61, .tuple #[.agg #[.int .i64 ra, .int .i64 rb], .int .i64 rc]), (71, .agg #[.int .i64 ra, .int .i64 rb]), (72, .int .i64 rc), (15, .pointer (some ⟨s.1, 0, none⟩))]) (fun s w' => Below W1.heap.size W1 w' ∧ w'.heap[s.1]? = some (.cells #[.int .i64 0, .int .i64 0] 23 (0, 0)) ∧ W1.heap.size ≤ s.1) ?_ ?_
    rotate_left
    ·intro hCont
     refine two_ (i := 6) (j := 12) (Ni := some 68) (Nj := some 15) #[true, true, true, true, true, true, true, true, false, false, false, false, false, false, false] #[true, true, true, true, true, true, false, true, false, false, false, false, true, false, false] rfl rfl rfl rfl (by kernel_rfl) (by decide) (by decide) (fun K hK => ?_) (fun K hK => ?_)
     ·skip
      refine goes_ Try.func32 (by kernel_rfl) rfl #[.agg #[.slice At ns.length ct, .int .i64 root], .int .i64 i, .slice As seeds.length cs, .agg #[.int .i64 3, .int .i64 1]] (by rfl) rfl rfl (by simp only [List.map_toArray, List.map_cons, List.map_nil]; rfl) ?_
      with_reducible refine (HWO1.out _ ((below_drew (Below.refl W1.heap.size W1)))).mono ?_
      rintro e_ w_6 ⟨v_, rfl, hr_, hb_⟩
      obtain ⟨Aw, cw, rfl, hle_, hCw_⟩ := Kd.R_reads hr_
      refine ⟨_, rfl, ?_⟩
      have HN_6 := Lib.hid hCw_
      have HLE := Lib.hid hle_
      have B_6 := Lib.hid (below_step ((below_drew (Below.refl W1.heap.size W1))) hb_)
      clear hb_ hr_ hCw_ hle_
      refine hK.out _ _ ⟨pw_cell_below B_6.out c0, pw_cell_below B_6.out c1, pw_cell_below B_6.out ca0, pw_cell_below B_6.out ca1⟩ (fun hHeld => ?_)
      clear hK K
      refine norm_ (a' := ?_) ?_ ?_
      rotate_left
      ·show Act.put _ (some 68) _ = _
       simp only [Act.put, List.setIfInBounds_toArray, List.set_cons_zero, List.set_cons_succ, i64_w, i32_w]
       rfl
      refine two_ (i := 8) (j := 12) (Ni := some 70) (Nj := some 15) #[true, true, true, true, true, true, true, true, true, false, false, false, false, false, false] #[true, true, true, true, true, true, true, true, false, false, false, false, true, false, false] rfl rfl rfl rfl (by kernel_rfl) (by decide) (by decide) (fun K hK => ?_) (fun K hK => ?_)
      ·skip
       refine goes_ Try.func31 (by kernel_rfl) rfl #[.agg #[.slice At ns.length ct, .int .i64 root], .int .i64 i, .slice Aw nl.length cw, .pointer (some ⟨Bh, 0, none⟩)] (by rfl) rfl rfl (by simp only [List.map_toArray, List.map_cons, List.map_nil]; rfl) ?_
       with_reducible refine (HEV.out _ Aw cw (B_6.out) HN_6.out HLE.out).mono ?_
       rintro e_ w_6_8 ⟨rfl, hb_⟩
       refine ⟨_, rfl, ?_⟩
       have B_6_8 := Lib.hid (below_step (B_6.out) hb_)
       clear hb_
       refine hK.out _ _ ⟨pw_cell_below B_6_8.out c0, pw_cell_below B_6_8.out c1, pw_cell_below B_6_8.out ca0, pw_cell_below B_6_8.out ca1⟩ (fun hHeld => ?_)
       clear hK K
       refine norm_ (a' := ?_) ?_ ?_
       rotate_left
       ·show Act.put _ (some 70) _ = _
        simp only [Act.put, List.setIfInBounds_toArray, List.set_cons_zero, List.set_cons_succ, i64_w, i32_w]
        rfl
       refine pure_ (i := 9) (N := some 61) (v := ?_) (a' := ?_) #[true, true, true, true, true, true, true, true, true, true, false, false, false, false, false] rfl rfl (by kernel_rfl) (fun _ _ _ h => h) (Or.inl ⟨by rfl, ?_⟩) ?_ ?_
       rotate_left
       ·intro w'
        go_simp
        with_reducible rfl
       rotate_left
       ·simp only [Act.put, List.setIfInBounds_toArray, List.set_cons_zero, List.set_cons_succ, i64_w, i32_w]
        rfl
       refine pure_ (i := 10) (N := some 71) (v := ?_) (a' := ?_) #[true, true, true, true, true, true, true, true, true, true, true, false, false, false, false] rfl rfl (by kernel_rfl) (fun _ _ _ h => h) (Or.inl ⟨by rfl, ?_⟩) ?_ ?_
       rotate_left
       ·intro w'
        go_simp
        with_reducible rfl
       rotate_left
       ·simp only [Act.put, List.setIfInBounds_toArray, List.set_cons_zero, List.set_cons_succ, i64_w, i32_w]
        rfl
       refine pure_ (i := 11) (N := some 72) (v := ?_) (a' := ?_) #[true, true, true, true, true, true, true, true, true, true, true, true, false, false, false] rfl rfl (by kernel_rfl) (fun _ _ _ h => h) (Or.inl ⟨by rfl, ?_⟩) ?_ ?_
       rotate_left
       ·intro w'
        go_simp
        with_reducible rfl
       rotate_left
       ·simp only [Act.put, List.setIfInBounds_toArray, List.set_cons_zero, List.set_cons_succ, i64_w, i32_w]
        rfl
       refine one_ (i := 12) (N := some 15) #[true, true, true, true, true, true, true, true, true, true, true, true, true, false, false] rfl rfl (by kernel_rfl) (by decide) (fun K hK => ?_)
       refine value_ (w1 := ?_) (v := ?_) (by rfl) rfl ?_ ?_
       rotate_left 2
       ·go_simp
        constructor
        ·rfl
        ·rfl
       have B_6_8_12 := Lib.hid (below_alloc (B_6_8.out) (.cells #[.int .i64 0, .int .i64 0] 23))
       have N_6_8_12 : Hid ((w_6_8.alloc (.cells #[.int .i64 0, .int .i64 0] 23)).heap[w_6_8.heap.size]? = some (.cells #[.int .i64 0, .int .i64 0] 23 (0, 0))) := Lib.hid (heap_alloc_new w_6_8 _)
       have LE_N_6_8_12 : Hid (W1.heap.size ≤ w_6_8.heap.size) := Lib.hid ((B_6_8.out).size)
       refine hK.out _ _ ⟨pw_cell_below B_6_8_12.out c0, pw_cell_below B_6_8_12.out c1, pw_cell_below B_6_8_12.out ca0, pw_cell_below B_6_8_12.out ca1⟩ (fun hHeld => ?_)
       clear hK K
       refine norm_ (a' := ?_) ?_ ?_
       rotate_left
       ·show Act.put _ (some 15) _ = _
        simp only [Act.put, List.setIfInBounds_toArray, List.set_cons_zero, List.set_cons_succ, i64_w, i32_w]
        rfl
       exact norm_ (by simp only [putAll, Act.put, List.setIfInBounds_toArray, List.set_cons_zero, List.set_cons_succ]) (hCont (w_6_8.heap.size, Value.slice Aw nl.length cw) _ ⟨B_6_8_12.out, N_6_8_12.out, LE_N_6_8_12.out⟩)
      ·skip
       refine value_ (w1 := ?_) (v := ?_) (by rfl) rfl ?_ ?_
       rotate_left 2
       ·go_simp
        constructor
        ·rfl
        ·rfl
       have B_6_12 := Lib.hid (below_alloc (B_6.out) (.cells #[.int .i64 0, .int .i64 0] 23))
       have N_6_12 : Hid ((w_6.alloc (.cells #[.int .i64 0, .int .i64 0] 23)).heap[w_6.heap.size]? = some (.cells #[.int .i64 0, .int .i64 0] 23 (0, 0))) := Lib.hid (heap_alloc_new w_6 _)
       have LE_N_6_12 : Hid (W1.heap.size ≤ w_6.heap.size) := Lib.hid ((B_6.out).size)
       have HN_6_12 := Lib.hid (Kd.C_below HN_6.out (below_alloc (Below.refl _ _) (.cells #[.int .i64 0, .int .i64 0] 23)))
       refine hK.out _ _ ⟨pw_cell_below B_6_12.out c0, pw_cell_below B_6_12.out c1, pw_cell_below B_6_12.out ca0, pw_cell_below B_6_12.out ca1⟩ (fun hHeld => ?_)
       clear hK K
       refine norm_ (a' := ?_) ?_ ?_
       rotate_left
       ·show Act.put _ (some 15) _ = _
        simp only [Act.put, List.setIfInBounds_toArray, List.set_cons_zero, List.set_cons_succ, i64_w, i32_w]
        rfl
       refine one_ (i := 8) (N := some 70) #[true, true, true, true, true, true, true, true, true, false, false, false, true, false, false] rfl rfl (by kernel_rfl) (by decide) (fun K hK => ?_)
       refine goes_ Try.func31 (by kernel_rfl) rfl #[.agg #[.slice At ns.length ct, .int .i64 root], .int .i64 i, .slice Aw nl.length cw, .pointer (some ⟨Bh, 0, none⟩)] (by rfl) rfl rfl (by simp only [List.map_toArray, List.map_cons, List.map_nil]; rfl) ?_
       with_reducible refine (HEV.out _ Aw cw (B_6_12.out) HN_6_12.out HLE.out).mono ?_
       rintro e_ w_6_12_8 ⟨rfl, hb_⟩
       refine ⟨_, rfl, ?_⟩
       have B_6_12_8 := Lib.hid (below_step (B_6_12.out) hb_)
       have N_6_12_8 := Lib.hid (blk_below N_6_12.out hb_)
       have LE_N_6_12_8 := Lib.hid LE_N_6_12.out
       clear hb_
       refine hK.out _ _ ⟨pw_cell_below B_6_12_8.out c0, pw_cell_below B_6_12_8.out c1, pw_cell_below B_6_12_8.out ca0, pw_cell_below B_6_12_8.out ca1⟩ (fun hHeld => ?_)
       clear hK K
       refine norm_ (a' := ?_) ?_ ?_
       rotate_left
       ·show Act.put _ (some 70) _ = _
        simp only [Act.put, List.setIfInBounds_toArray, List.set_cons_zero, List.set_cons_succ, i64_w, i32_w]
        rfl
       refine pure_ (i := 9) (N := some 61) (v := ?_) (a' := ?_) #[true, true, true, true, true, true, true, true, true, true, false, false, true, false, false] rfl rfl (by kernel_rfl) (fun _ _ _ h => h) (Or.inl ⟨by rfl, ?_⟩) ?_ ?_
       rotate_left
       ·intro w'
        go_simp
        with_reducible rfl
       rotate_left
       ·simp only [Act.put, List.setIfInBounds_toArray, List.set_cons_zero, List.set_cons_succ, i64_w, i32_w]
        rfl
       refine pure_ (i := 10) (N := some 71) (v := ?_) (a' := ?_) #[true, true, true, true, true, true, true, true, true, true, true, false, true, false, false] rfl rfl (by kernel_rfl) (fun _ _ _ h => h) (Or.inl ⟨by rfl, ?_⟩) ?_ ?_
       rotate_left
       ·intro w'
        go_simp
        with_reducible rfl
       rotate_left
       ·simp only [Act.put, List.setIfInBounds_toArray, List.set_cons_zero, List.set_cons_succ, i64_w, i32_w]
        rfl
       refine pure_ (i := 11) (N := some 72) (v := ?_) (a' := ?_) #[true, true, true, true, true, true, true, true, true, true, true, true, true, false, false] rfl rfl (by kernel_rfl) (fun _ _ _ h => h) (Or.inl ⟨by rfl, ?_⟩) ?_ ?_
       rotate_left
       ·intro w'
        go_simp
        with_reducible rfl
       rotate_left
       ·simp only [Act.put, List.setIfInBounds_toArray, List.set_cons_zero, List.set_cons_succ, i64_w, i32_w]
        rfl
       exact norm_ (by simp only [putAll, Act.put, List.setIfInBounds_toArray, List.set_cons_zero, List.set_cons_succ]) (hCont (w_6.heap.size, Value.slice Aw nl.length cw) _ ⟨B_6_12_8.out, N_6_12_8.out, LE_N_6_12_8.out⟩)
     ·skip
      refine value_ (w1 := ?_) (v := ?_) (by rfl) rfl ?_ ?_
      rotate_left 2
      ·go_simp
       constructor
       ·rfl
       ·rfl
      have B_12 : Hid (Below W1.heap.size W1 ((W1.alloc (.cells #[.int .i64 0, .int .i64 0] 23)).drew)) := Lib.hid (below_drew (below_alloc (Below.refl _ _) _))
      have N_12 : Hid (((W1.alloc (.cells #[.int .i64 0, .int .i64 0] 23)).drew).heap[W1.heap.size]? = some (.cells #[.int .i64 0, .int .i64 0] 23 (0, 0))) := Lib.hid (blk_drew (heap_alloc_new W1 _))
      have LE_N_12 : Hid (W1.heap.size ≤ W1.heap.size) := Lib.hid (Nat.le_refl _)
      refine hK.out _ _ ⟨pw_cell_below B_12.out c0, pw_cell_below B_12.out c1, pw_cell_below B_12.out ca0, pw_cell_below B_12.out ca1⟩ (fun hHeld => ?_)
      clear hK K
      refine norm_ (a' := ?_) ?_ ?_
      rotate_left
      ·show Act.put _ (some 15) _ = _
       simp only [Act.put, List.setIfInBounds_toArray, List.set_cons_zero, List.set_cons_succ, i64_w, i32_w]
       rfl
      refine one_ (i := 6) (N := some 68) #[true, true, true, true, true, true, true, true, false, false, false, false, true, false, false] rfl rfl (by kernel_rfl) (by decide) (fun K hK => ?_)
      refine goes_ Try.func32 (by kernel_rfl) rfl #[.agg #[.slice At ns.length ct, .int .i64 root], .int .i64 i, .slice As seeds.length cs, .agg #[.int .i64 3, .int .i64 1]] (by rfl) rfl rfl (by simp only [List.map_toArray, List.map_cons, List.map_nil]; rfl) ?_
      with_reducible refine (HWO1.out _ (B_12.out)).mono ?_
      rintro e_ w_12_6 ⟨v_, rfl, hr_, hb_⟩
      obtain ⟨Aw, cw, rfl, hle_, hCw_⟩ := Kd.R_reads hr_
      refine ⟨_, rfl, ?_⟩
      have HN_12_6 := Lib.hid hCw_
      have HLE := Lib.hid hle_
      have B_12_6 := Lib.hid (below_step (B_12.out) hb_)
      have N_12_6 := Lib.hid (blk_below N_12.out hb_)
      have LE_N_12_6 := Lib.hid LE_N_12.out
      clear hb_ hr_ hCw_ hle_
      refine hK.out _ _ ⟨pw_cell_below B_12_6.out c0, pw_cell_below B_12_6.out c1, pw_cell_below B_12_6.out ca0, pw_cell_below B_12_6.out ca1⟩ (fun hHeld => ?_)
      clear hK K
      refine norm_ (a' := ?_) ?_ ?_
      rotate_left
      ·show Act.put _ (some 68) _ = _
       simp only [Act.put, List.setIfInBounds_toArray, List.set_cons_zero, List.set_cons_succ, i64_w, i32_w]
       rfl
      refine one_ (i := 8) (N := some 70) #[true, true, true, true, true, true, true, true, true, false, false, false, true, false, false] rfl rfl (by kernel_rfl) (by decide) (fun K hK => ?_)
      refine goes_ Try.func31 (by kernel_rfl) rfl #[.agg #[.slice At ns.length ct, .int .i64 root], .int .i64 i, .slice Aw nl.length cw, .pointer (some ⟨Bh, 0, none⟩)] (by rfl) rfl rfl (by simp only [List.map_toArray, List.map_cons, List.map_nil]; rfl) ?_
      with_reducible refine (HEV.out _ Aw cw (B_12_6.out) HN_12_6.out HLE.out).mono ?_
      rintro e_ w_12_6_8 ⟨rfl, hb_⟩
      refine ⟨_, rfl, ?_⟩
      have B_12_6_8 := Lib.hid (below_step (B_12_6.out) hb_)
      have N_12_6_8 := Lib.hid (blk_below N_12_6.out hb_)
      have LE_N_12_6_8 := Lib.hid LE_N_12_6.out
      clear hb_
      refine hK.out _ _ ⟨pw_cell_below B_12_6_8.out c0, pw_cell_below B_12_6_8.out c1, pw_cell_below B_12_6_8.out ca0, pw_cell_below B_12_6_8.out ca1⟩ (fun hHeld => ?_)
      clear hK K
      refine norm_ (a' := ?_) ?_ ?_
      rotate_left
      ·show Act.put _ (some 70) _ = _
       simp only [Act.put, List.setIfInBounds_toArray, List.set_cons_zero, List.set_cons_succ, i64_w, i32_w]
       rfl
      refine pure_ (i := 9) (N := some 61) (v := ?_) (a' := ?_) #[true, true, true, true, true, true, true, true, true, true, false, false, true, false, false] rfl rfl (by kernel_rfl) (fun _ _ _ h => h) (Or.inl ⟨by rfl, ?_⟩) ?_ ?_
      rotate_left
      ·intro w'
       go_simp
       with_reducible rfl
      rotate_left
      ·simp only [Act.put, List.setIfInBounds_toArray, List.set_cons_zero, List.set_cons_succ, i64_w, i32_w]
       rfl
      refine pure_ (i := 10) (N := some 71) (v := ?_) (a' := ?_) #[true, true, true, true, true, true, true, true, true, true, true, false, true, false, false] rfl rfl (by kernel_rfl) (fun _ _ _ h => h) (Or.inl ⟨by rfl, ?_⟩) ?_ ?_
      rotate_left
      ·intro w'
       go_simp
       with_reducible rfl
      rotate_left
      ·simp only [Act.put, List.setIfInBounds_toArray, List.set_cons_zero, List.set_cons_succ, i64_w, i32_w]
       rfl
      refine pure_ (i := 11) (N := some 72) (v := ?_) (a' := ?_) #[true, true, true, true, true, true, true, true, true, true, true, true, true, false, false] rfl rfl (by kernel_rfl) (fun _ _ _ h => h) (Or.inl ⟨by rfl, ?_⟩) ?_ ?_
      rotate_left
      ·intro w'
       go_simp
       with_reducible rfl
      rotate_left
      ·simp only [Act.put, List.setIfInBounds_toArray, List.set_cons_zero, List.set_cons_succ, i64_w, i32_w]
       rfl
      exact norm_ (by simp only [putAll, Act.put, List.setIfInBounds_toArray, List.set_cons_zero, List.set_cons_succ]) (hCont (W1.heap.size, Value.slice Aw nl.length cw) _ ⟨B_12_6_8.out, N_12_6_8.out, LE_N_12_6_8.out⟩)
    rintro ⟨sp, sv⟩ wF ⟨hF1, hF2, hF3⟩
    dsimp only at hF1 hF2 hF3
    have hHeld := True.intro
    refine norm_ (a' := ?_) ?_ ?_
    rotate_left
    ·simp only [putAll, Act.put, List.setIfInBounds_toArray, List.set_cons_zero, List.set_cons_succ]
     rfl
    refine last_ (i := 13) (N := none) #[true, true, true, true, true, true, true, true, true, true, true, true, true, true, false] rfl rfl (by kernel_rfl) (by decide) (fun K hK => ?_)
    have cv0 := (blk_cell hF2 0).trans rfl
    have cv1 := (blk_cell hF2 1).trans rfl
    have fv0 := blk_frozen hF2 0
    have fv1 := blk_frozen hF2 1
    refine skip_ (w1 := ?_) (by rfl) rfl ?_ ?_
    rotate_left
    ·go_simp
     rfl
    refine hK.out _ _ ?_
    clear hK K
    refine pure_ (i := 14) (N := some 16) (v := ?_) (a' := ?_) #[true, true, true, true, true, true, true, true, true, true, true, true, true, true, true] rfl rfl (by kernel_rfl) (fun _ _ _ h => h) (Or.inl ⟨by rfl, ?_⟩) ?_ ?_
    rotate_left
    ·intro w'
     go_simp
     with_reducible rfl
    rotate_left
    ·simp only [Act.put, List.setIfInBounds_toArray, List.set_cons_zero, List.set_cons_succ, i64_w, i32_w]
     rfl
    refine done_ (by kernel_rfl) ?_
    obtain ⟨W2, hw_⟩ : ∃ W2, W2 = (wF.setCell ⟨sp, 0, none⟩ (.int .i64 ra)).setCell ⟨sp, 1, none⟩ (.int .i64 rb) := ⟨_, rfl⟩
    rw [← hw_]
    have hb_ : Below W1.heap.size W1 W2 := by rw [hw_]; exact Below.setCell (p := ⟨sp, _, none⟩) (Below.setCell (p := ⟨sp, _, none⟩) hF1 hF3 _) hF3 _
    have nv := Lib.hid (show W2.heap[sp]? = some (.cells #[.int .i64 ra, .int .i64 rb] 23 (0, 0)) by rw [hw_]; exact blk_put (blk_put hF2 0 _ rfl) 1 _ rfl)
    have HB2 := Lib.hid (below_step HB1.out hb_)
    have X2 := Lib.hid (blk_below X1.out hb_)
    have Y2 := Lib.hid (blk_below Y1.out hb_)
    have HH2 := Lib.hid (HH1.out.below hb_)
    clear hF1 hF2 hF3 hw_ hb_ hHeld c0 c1 ca0 ca1
    have v0 : W2.cell? ⟨sp, 0, none⟩ = some (.int .i64 ra) := (blk_cell nv.out 0).trans rfl
    have v1 : W2.cell? ⟨sp, 1, none⟩ = some (.int .i64 rb) := (blk_cell nv.out 1).trans rfl
    rcases HRO.out with h | ⟨h1, h2, h3, h4⟩
    ·have h : rc = 0 := h
     have hka := HK.out h
     subst h
     subst hka
     go_wp2_with fail
     go_roundg (gk - 1)
     case measure => have := HN.out; omega
     case rel => exact ⟨i + 1, by norm_cast, hlt, Lib.hid (by have := HN.out; omega), HB2, X2, Y2, HH2⟩
    ·have h1 : 1 ≤ rc := h1
     have h2 : rc ≤ 3 := h2
     have h3 : ra = 0 := h3
     have h4 : rb = 0 := h4
     subst h3
     subst h4
     have hc0 : ¬ rc = 0 := by omega
     have hc1 : ¬ rc < 1 := by omega
     have hc3 : ¬ 3 < rc := by omega
     clear HK
     go_wp2_with fail
     go_roundg (gk - 1)
     case measure => have := HN.out; omega
     case rel => exact ⟨i + 1, by norm_cast, hlt, Lib.hid (by have := HN.out; omega), HB2, X2, Y2, HH2⟩
  ·obtain rfl : i = ns.length := by omega
   go_wp2_with fail
   go_ret
   exact ⟨rfl, HB.out⟩
end Go.Proofs.Ytkhlfdcjgooogaa.P
namespace Go.Proofs.Ytkhlfdcjgooogaa.Op
open Go.RowKit Go.ChangeShapes Go.WideShapes Go.ChangeAt Go.Deep Go.Proofs.YtkhlfdcjgooogaaW.PrintWords
def Rd {α : Type} (P : Program) (t : TypeId) (d : Kd α) (G : α → Prop) : Prop :=
 ∀ (H : Type) (enc : TypeId × Value → H) (w : World) (fuel : Nat) (cs : List Value) (x : DataW H × List MemPlace),
  DataW.trod enc P w 0 (fun _ => true) true fuel t cs = some x → ∃ a, d.K w a cs ∧ G a
variable {P : Program} {t : TypeId}
theorem Rd.int {k : IntKind} (ht : P.underlying t = some (.int k)) : Rd P t (Kd.int k) (fun a => (Lit.int k a).wf = true) := fun H enc w fuel cs x h => by
 obtain ⟨n, rfl, _, hw⟩ := DataW.trod_int ht h
 exact ⟨n, rfl, hw⟩
theorem Rd.string (ht : P.underlying t = some .string) : Rd P t Kd.string (fun s => s.size ≤ maxLen) := fun H enc w fuel cs x h => by
 obtain ⟨s, rfl, _, hs⟩ := DataW.trod_string ht h
 exact ⟨s, rfl, hs⟩
theorem add_block (a : Addr) (n : Nat) : (a.add n).block = a.block := by unfold Addr.add; split <;> rfl
theorem Rd.slice {α : Type} {e : TypeId} {d : Kd α} {G : α → Prop} (ht : P.underlying t = some (.slice e)) (hC : P.cellsOf e = d.sz) (he : Rd P e d G) :
  Rd P t (Kd.slice e d) (fun xs => xs.length ≤ maxLen ∧ ∀ a ∈ xs, G a) := fun H enc w fuel cs x h => by
 rcases open_slice ht h with ⟨rfl, _⟩ | ⟨a, len, cap, m, n, D, Pl, rfl, _, hl, hm, hmm, _, hi⟩
 ·exact ⟨[], ⟨none, 0, rfl, Nat.le_refl _, rfl, by simp, fun hp => absurd hp (by simp)⟩, by simp, fun a ha => by cases ha⟩
 ·have hlen : len ≤ maxLen := Nat.le_trans hl hm
  have hlm : len ≤ m := by rw [hmm]; split <;> omega
  have hx : ∀ i : Fin len, ∃ y : α, G y ∧ ∃ cs', cs'.length = d.sz ∧ d.K w y cs' ∧ ∀ j u, cs'[j]? = some u → w.cell? (a.add (i.val * d.sz + j)) = some u := fun i => by
   obtain ⟨cs', hc, ht'⟩ := hi i.val (by have := i.isLt; omega)
   obtain ⟨y, hK, hG⟩ := he H enc w n cs' _ ht'
   obtain ⟨_, hcl, hat⟩ := World.cells?_some hc
   refine ⟨y, hG, cs', by rw [hcl, hC], hK, fun j u hu => ?_⟩
   have hj : j < P.cellsOf e := by rw [← hcl]; exact (List.getElem?_eq_some_iff.1 hu).1
   have := hat j hj
   rw [Go.Deep.add_add, hC] at this
   exact this.trans hu
  refine ⟨List.ofFn fun i => Classical.choose (hx i), ⟨some a, cap, by simp, by simpa using hl, ?_⟩, by simpa using hlen, fun y hy => ?_⟩
  ·refine ⟨by simp, by simp only [List.length_ofFn]; simp only [maxLen] at hlen; omega, fun _ => ⟨a, rfl, fun j p hj => ?_⟩⟩
   obtain ⟨hjl, hp⟩ := List.getElem?_eq_some_iff.1 hj
   rw [List.length_ofFn] at hjl
   rw [List.getElem_ofFn] at hp
   subst hp
   obtain ⟨_, c, h1, h2, h3⟩ := Classical.choose_spec (hx ⟨j, hjl⟩)
   exact ⟨c, h1, h2, h3⟩
  ·obtain ⟨i, hi'⟩ := List.mem_ofFn.1 hy
   rw [← hi']
   exact (Classical.choose_spec (hx i)).1
theorem pairK {α β : Type} {a : Kd α} {b : Kd β} {w : World} {x : α} {y : β} {cs : List Value} (o : Nat) (h1 : a.K w x ((cs.drop o).take a.sz)) (h2 : b.K w y (cs.drop (o + a.sz))) : (Kd.pair a b).K w (x, y) (cs.drop o) :=
 ⟨_, _, by rw [Nat.add_comm, ← List.drop_drop, List.drop_drop, Nat.add_comm, ← List.drop_drop]; exact (List.take_append_drop _ _).symm, h1, h2⟩
theorem lastK {α : Type} {a : Kd α} {w : World} {x : α} {cs : List Value} (o : Nat) (hl : cs.length = o + a.sz) (h1 : a.K w x ((cs.drop o).take a.sz)) : a.K w x (cs.drop o) := by
 rwa [List.take_of_length_le (by rw [List.length_drop]; omega)] at h1
theorem Rd.field {α : Type} {H : Type} {enc : TypeId × Value → H} {w : World} {n o : Nat} {cs : List Value} {ft : TypeId} {d : Kd α} {G : α → Prop} (hd : Rd P ft d G) (hC : P.cellsOf ft = d.sz) (y : Option (DataW H × List MemPlace)) (hy : y.isSome = true)
  (h : DataW.trod enc P w 0 (fun _ => true) true n ft ((cs.drop o).take (P.cellsOf ft)) = y) : ∃ a, d.K w a ((cs.drop o).take d.sz) ∧ G a := by
 rw [hC] at h
 obtain ⟨z, rfl⟩ := Option.isSome_iff_exists.1 hy
 exact hd H enc w n _ _ h
theorem toArray_of {cs : Array Value} {l : List Value} (h : cs.toList = l) : cs = l.toArray := by rw [← h]
end Go.Proofs.Ytkhlfdcjgooogaa.Op
