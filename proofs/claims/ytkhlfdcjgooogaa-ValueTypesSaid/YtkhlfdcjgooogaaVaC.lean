import Derived.Test.YtkhlfdcjgooogaaTrB
import Derived.Test.YtkhlfdcjgooogaaHeapC
import Derived.Test.YtkhlfdcjgooogaaPf34
import Derived.Test.YtkhlfdcjgooogaaPf37
import Derived.Test.YtkhlfdcjgooogaaPf13
set_option linter.unusedVariables false
set_option linter.unusedSimpArgs false
namespace Go.Proofs.Ytkhlfdcjgooogaa.P
open Go.RowKit Go.Proofs.YtkhlfdcjgooogaaW.PrintWords Go.Proofs.YtkhlfdcjgooogaaW.PrintLast Go.Proofs.YtkhlfdcjgooogaaW.PrintMore
attribute [local go_sem] max2_int min2_int max_two min_two max_three min_three max_four min_four
def value_Zero.f (a0 : Int) : Option (Int × Int) := some (a0, 0)
set_option maxHeartbeats 8000000 in
set_option maxRecDepth 100000 in
theorem value_Zero.calls (a0 : Int) (r1 : Int) (r2 : Int) (w : World) (h : value_Zero.f a0 = some (r1, r2)) :
  Calls Try.prog 15 #[.int .i64 a0] w fun e w' => e = .returned (.agg #[.int .i64 r1, .int .i64 r2]) ∧ Below w.heap.size w w' := by
 have hu23 := Try.underlying23
 have HB := Aside0.mk (Below.refl w.heap.size w)
 have H : (some (a0, 0)) = some (r1, r2) := h
 clear h
 simp only [Option.some.injEq, Prod.mk.injEq] at H
 obtain ⟨rfl, rfl⟩ := H
 go_enter Try.func15, Try.ntmps15
 go_wp2_with (first | ((with_reducible refine gate_dst (N := 2) rfl ?_); refine box_event ?hg (N := 2) ?hd (cs := #[.int .i64 0, .int .i64 0]) (t := 23) ?hr ?_; (case hd => rfl); (case hg => rfl); (case hr => first | (go_simp; done) | (go_simp; rfl)); intro gb150 hg w2 hbox hb; have n0_ := Aside0.mk (below_step (by repeat (first | (with_reducible first | exact HB.out | apply below_alloc | apply pw_below_drewN | apply below_drew1) | exact HB.out)) hb); have n1_ := Aside0.mk (hbox); have n2_ := Aside0.mk ((by rw [hg]; exact (below_size (by repeat (first | (with_reducible first | exact HB.out | apply below_alloc | apply pw_below_drewN | apply below_drew1) | exact HB.out))) : w.heap.size ≤ gb150)); have n3_ := Aside0.mk ((by rw [hg]; exact (below_size (by repeat (first | (with_reducible first | exact HB.out | apply below_alloc | apply pw_below_drewN | apply below_drew1) | exact HB.out))) : w.heap.size ≤ gb150)); clear HB; have HB := n0_; have BK150 := n1_; have GW150 := n2_; have GE150 := n3_; clear n0_ n1_ n2_ n3_; clear hb hbox hg; have hcz3_0 : w2.cell? ⟨gb150, 0, none⟩ = some (.int .i64 0) := (blk_cell BK150.out 0).trans rfl; have hcz3_1 : w2.cell? ⟨gb150, 1, none⟩ = some (.int .i64 0) := (blk_cell BK150.out 1).trans rfl; have hfz3_0 := blk_frozen BK150.out 0; have hfz3_1 := blk_frozen BK150.out 1))
 refine bodyPost_ret (results_cell_row rfl _ _ gb150 23 #[.int .i64 a0, .int .i64 0] (0, 0) _ rfl (by (with_reducible repeat (first | refine blk_drewN ?_ _ | refine blk_drew ?_ | refine blk_alloc ?_ _)); refine blk_put (cs := #[.int .i64 a0, .int .i64 0]) ?_ 1 _ rfl; (with_reducible repeat (first | refine blk_drewN ?_ _ | refine blk_drew ?_ | refine blk_alloc ?_ _)); refine blk_put (cs := #[.int .i64 0, .int .i64 0]) ?_ 0 _ rfl; (with_reducible repeat (first | refine blk_drewN ?_ _ | refine blk_drew ?_ | refine blk_alloc ?_ _)); exact BK150.out) Try.underlying23 rfl (by kernel_rfl)) rfl ?_
 exact ⟨by first | rfl | (simp [errW_none, errW_some] <;> rfl) | (simp [*, errW_none, errW_some] <;> rfl), by repeat (first | (with_reducible first | exact HB.out | apply below_alloc | apply pw_below_drewN | apply below_drew1 | refine below_set ?_ GE150.out) | exact HB.out)⟩
def unF (s : ByteArray) (k n : Int) : Int × Int × Bool := (value_Unary.f 9 s k n).getD (0, 0, false)
def binF (s : ByteArray) (k n k' n' : Int) : Int × Int × Int × Bool := (value_Binary.f 9 s k n k' n').getD (0, 0, 0, false)
theorem truth_some (b : Bool) : value_truth.f b = some (2, if b = true then 1 else 0) := by cases b <;> rfl
theorem number_some (x : Int) : value_number.f x = some (1, x) := rfl
theorem un_some (s : ByteArray) (k n : Int) : value_Unary.f 9 s k n = some (unF s k n) := by
 have : (value_Unary.f 9 s k n).isSome = true := by
  simp only [value_Unary.f, value_Unary.j0, number_some, truth_some, Option.bind_some]
  repeat' split
  all_goals rfl
 unfold unF
 cases h : value_Unary.f 9 s k n with
 | some r => rfl
 | none => rw [h] at this; cases this
theorem ite_sm {α : Type} {c : Prop} [Decidable c] {x y : Option α} (hx : x.isSome = true) (hy : y.isSome = true) : (if c then x else y).isSome = true := by split <;> assumption
theorem same_sm (s : ByteArray) (x : Bool) : ∃ r, value_same.f s x = some r := by
 refine Option.isSome_iff_exists.1 ?_
 unfold value_same.f
 simp only [truth_some, Option.bind_some]
 repeat' (first | rfl | refine ite_sm ?_ ?_)
theorem ints_some (s : ByteArray) (a b : Int) : ∃ r, value_ints.f 8 s a b = some r := by
 obtain ⟨r, hr⟩ := same_sm s (a == b)
 refine Option.isSome_iff_exists.1 ?_
 simp only [value_ints.f, value_ints.j0, number_some, truth_some, hr, Option.bind_some]
 repeat' (first | rfl | refine ite_sm ?_ ?_)
set_option maxHeartbeats 2000000 in
theorem bin_some (s : ByteArray) (k n k' n' : Int) : value_Binary.f 9 s k n k' n' = some (binF s k n k' n') := by
 have : ∃ r, value_Binary.f 9 s k n k' n' = some r := by
  obtain ⟨r, hr⟩ := ints_some s n n'
  obtain ⟨r2, hr2⟩ := same_sm s ((n != 0) == (n' != 0))
  refine Option.isSome_iff_exists.1 ?_
  unfold value_Binary.f
  simp only [value_Binary.j0, value_Binary.j1, truth_some, hr, hr2, Option.bind_some]
  repeat' (first | rfl | refine ite_sm ?_ ?_)
 obtain ⟨r, hr⟩ := this
 unfold binF
 rw [hr]
 rfl
def opF (ns : List S101) (ol : List Int) (nl : List NV) (L : List (List Int)) (i : Int) (vs : List (Int × Int)) : Int × Int × Int :=
 if kdOf ns i = 20 then (1, nOf ns i, 0)
 else if kdOf ns i = 21 then (2, nOf ns i, 0)
 else if kdOf ns i = 22 then ((nameF nl (nmOf ns i)).1, (nameF nl (nmOf ns i)).2, 0)
 else if kdOf ns i = 23 then (getK L (nameF nl (nmOf ns i)).1 (nameF nl (nmOf ns i)).2 (vs.getD 0 (0, 0)).1 (vs.getD 0 (0, 0)).2, getN L (nameF nl (nmOf ns i)).1 (nameF nl (nmOf ns i)).2 (vs.getD 0 (0, 0)).1 (vs.getD 0 (0, 0)).2, wrongF L (nameF nl (nmOf ns i)).1 (nameF nl (nmOf ns i)).2 (vs.getD 0 (0, 0)).1 (vs.getD 0 (0, 0)).2)
 else if kdOf ns i = 24 then (1, lenF L (nameF nl (nmOf ns i)).1 (nameF nl (nmOf ns i)).2, 0)
 else if kdOf ns i = 25 then (4, procF ns (nmOf ns i) + 1, 0)
 else if kdOf ns i = 26 then (if (unF (rd_T101 ns i).f3 (vs.getD 0 (0, 0)).1 (vs.getD 0 (0, 0)).2).2.2 = true then ((unF (rd_T101 ns i).f3 (vs.getD 0 (0, 0)).1 (vs.getD 0 (0, 0)).2).1, (unF (rd_T101 ns i).f3 (vs.getD 0 (0, 0)).1 (vs.getD 0 (0, 0)).2).2.1, 0) else (exprF ns ol i, 0, 0))
 else (if (binF (rd_T101 ns i).f3 (vs.getD 0 (0, 0)).1 (vs.getD 0 (0, 0)).2 (vs.getD 1 (0, 0)).1 (vs.getD 1 (0, 0)).2).2.2.2 = true then ((binF (rd_T101 ns i).f3 (vs.getD 0 (0, 0)).1 (vs.getD 0 (0, 0)).2 (vs.getD 1 (0, 0)).1 (vs.getD 1 (0, 0)).2).1, (binF (rd_T101 ns i).f3 (vs.getD 0 (0, 0)).1 (vs.getD 0 (0, 0)).2 (vs.getD 1 (0, 0)).1 (vs.getD 1 (0, 0)).2).2.1, (binF (rd_T101 ns i).f3 (vs.getD 0 (0, 0)).1 (vs.getD 0 (0, 0)).2 (vs.getD 1 (0, 0)).1 (vs.getD 1 (0, 0)).2).2.2.1) else (exprF ns ol i, 0, 0))
def kidsF (f : Int → Int × Int × Int) : List Int → List (Int × Int) → List (Int × Int) × Int
 | [], acc => (acc, 0)
 | k :: ks, acc => if (f k).2.2 = 0 then kidsF f ks (acc ++ [((f k).1, (f k).2.1)]) else ([], (f k).2.2)
def evalF (ns : List S101) (ol : List Int) (nl : List NV) (L : List (List Int)) : Nat → Int → Int × Int × Int
 | 0, i => (0, 0, 0)
 | n + 1, i => if (kidsF (evalF ns ol nl L n) (rd_T101 ns i).f4 []).2 = 0 then opF ns ol nl L i (kidsF (evalF ns ol nl L n) (rd_T101 ns i).f4 []).1 else (0, 0, (kidsF (evalF ns ol nl L n) (rd_T101 ns i).f4 []).2)
structure EvW (At : Option Addr) (ct : Nat) (ns : List S101) (An : Option Addr) (cn : Nat) (nl : List NV) (Bh : Nat) (ok : Nat → Prop) (L : List (List Int)) (w : World) : Prop where
 hC : Kd.C k101 w At ns.length ns
 hct : ns.length ≤ ct
 hN : Kd.C kNV w An nl.length nl
 hcn : nl.length ≤ cn
 hnl : nl.length ≤ 1000000
 hH : HA w Bh ok L
 hL : cellsOf L ≤ 262144
 hE : Env w
theorem EvW.below {At : Option Addr} {ct : Nat} {ns : List S101} {An : Option Addr} {cn : Nat} {nl : List NV} {Bh : Nat} {ok : Nat → Prop} {L : List (List Int)} {w w' : World} (h : EvW At ct ns An cn nl Bh ok L w) (hb : Below w.heap.size w w') : EvW At ct ns An cn nl Bh ok L w' :=
 ⟨Kd.C_below h.hC hb, h.hct, Kd.C_below h.hN hb, h.hcn, h.hnl, h.hH.below hb, h.hL, h.hE.below hb h.hE.six⟩
def pairC (vs : List (Int × Int)) : Array Value := #[.int .i64 (vs.getD 0 (0, 0)).1, .int .i64 (vs.getD 0 (0, 0)).2, .int .i64 (vs.getD 1 (0, 0)).1, .int .i64 (vs.getD 1 (0, 0)).2]
end Go.Proofs.Ytkhlfdcjgooogaa.P
