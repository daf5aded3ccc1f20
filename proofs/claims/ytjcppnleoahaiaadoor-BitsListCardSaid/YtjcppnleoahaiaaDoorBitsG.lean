/- bits.Set: Same, Within, Count. -/
import Derived.Test.YtjcppnleoahaiaaDoorBitsF
import Derived.Test.YtjcppnleoahaiaaDoorBitsE
import Derived.ChangeKeysEq
namespace Go.Proofs.YtjcppnleoahaiaaDoor.P
open Go.RowKit Go.Proofs.YtjcppnleoahaiaaDoorW.PrintWords Go.Proofs.YtjcppnleoahaiaaDoorW.PrintLast Go.Proofs.YtjcppnleoahaiaaDoorW.PrintMore
set_option linter.unusedVariables false
set_option linter.unusedSimpArgs false
theorem eq_items (m m' : Nat → Bool) (w : World) (d : Nat) : ∀ is : List Nat, (∀ i ∈ is, i < 64) → (Op.eqItems (d + 1) 24 1 (cells m) (cells m') is).run Tryd.prog w = .ok (is.all (fun i => word m i == word m' i)) w
  | [], _ => by simp [Op.eqItems]
  | i :: is, h => by
    have hi := h i (by simp)
    have e1 := cells_at m hi
    have e2 := cells_at m' hi
    have ih := eq_items m m' w d is (fun j hj => h j (by simp [hj]))
    have u24 := Tryd.underlying24
    have a24 := Tryd.isAgg24
    have z24 := Tryd.sizeOf24
    have hp : Tryd.prog.plainKey 24 = true := by kernel_rfl
    have p1 := Go.run_part_plain (P := Tryd.prog) w (e := 24) hp e1
    have p2 := Go.run_part_plain (P := Tryd.prog) w (e := 24) hp e2
    have p3 := run_equalIn_int (P := Tryd.prog) w d 24 .u64 .u64 (word m i) (word m' i) u24
    simp only [Op.eqItems, Nat.mul_one, Sem.run_bind, p1, p2, p3, Result.andThen_ok]
    by_cases hw : word m i = word m' i
    · simp [hw, ih]
    · have : ((word m i : Int) == (word m' i : Int)) = false := by simp; omega
      simp [this, hw]
def sameF (m m' : Nat → Bool) : Bool := (List.range 64).all (fun i => word m i == word m' i)
theorem part25 (m : Nat → Bool) (w : World) : (Go.part 25 (cells m) 0).run Tryd.prog w = .ok (.agg (cells m)) w := by
  have a25 := Tryd.isAgg25
  have z25 := Tryd.sizeOf25
  have hs := cells_size m
  unfold Go.part
  go_simp
theorem eq27 (m m' : Nat → Bool) (w : World) : (Op.equalIn 10000 27 (.agg (cells m)) (.agg (cells m'))).run Tryd.prog w = .ok (sameF m m') w := by
  refine eqA_of (d := 9999) (P := Tryd.prog) Tryd.underlying27 (by kernel_rfl) ?_
  refine eqf_last (P := Tryd.prog) (by kernel_rfl) (part25 m w) (part25 m' w) ?_
  rw [show (9999 : Nat) = 9998 + 1 from rfl]
  refine (Go.run_equalIn_array (P := Tryd.prog) w 9998 (e := 24) (n := 64) (cells m) (cells m') Tryd.underlying25 (i := _) rfl).trans ?_
  exact eq_items m m' w 9997 (List.range 64) (fun i h => List.mem_range.1 h)
set_option maxRecDepth 100000 in
set_option maxHeartbeats 4000000 in
theorem same_any (m m' : Nat → Bool) (w : World) :
    Calls Tryd.prog 28 #[.agg (cells m), .agg (cells m')] w fun e w' => e = .returned (.bool (sameF m m')) ∧ Below w.heap.size w w' := by
  have hsz := cells_size m
  have hsz' := cells_size m'
  obtain ⟨cs, hcs⟩ : ∃ cs, cs = cells m := ⟨_, rfl⟩
  obtain ⟨cs', hcs'⟩ : ∃ cs, cs = cells m' := ⟨_, rfl⟩
  rw [← hcs] at hsz ⊢
  rw [← hcs'] at hsz' ⊢
  have heq : ∀ W_ : World, (Op.equalIn 10000 27 (.agg cs) (.agg cs')).run Tryd.prog W_ = .ok (sameF m m') W_ := fun W_ => by rw [hcs, hcs']; exact eq27 m m' W_
  have hgu : Tryd.prog.eqGuardType Tryd.prog.depth 27 = false := by kernel_rfl
  have hi : (Tryd.prog.info? 27).map (·.size) = some cs.size := by rw [hsz]; kernel_rfl
  have hi' : (Tryd.prog.info? 27).map (·.size) = some cs'.size := by rw [hsz']; kernel_rfl
  clear hcs hcs'
  go_enter Tryd.func28, Tryd.ntmps28
  go_wp2_with (((with_reducible refine gate_dst (N := 5) rfl ?_); refine Stp.out ?_))
  unfold Stp
  have K1 : ((w.alloc (.cells cs 27)).alloc (.cells cs' 27)).heap[w.heap.size]? = some (.cells cs 27 (0, 0)) := blk_alloc (heap_alloc_new w _) _
  have K2 : ((w.alloc (.cells cs 27)).alloc (.cells cs' 27)).heap[w.heap.size + 1]? = some (.cells cs' 27 (0, 0)) := blk_new1 w _ _
  refine wpList_load_row rfl 27 (.tmp 2) rfl w.heap.size rfl 27 cs (0, 0) _ K1 Tryd.underlying27 rfl hi ?_
  refine wpList_load_row rfl 27 (.tmp 3) rfl (w.heap.size + 1) rfl 27 cs' (0, 0) _ K2 Tryd.underlying27 rfl hi' ?_
  go_wp2_with fail
  go_ret
  exact ⟨rfl, below_alloc (below_alloc (Below.refl _ _) _) _⟩
end Go.Proofs.YtjcppnleoahaiaaDoor.P
