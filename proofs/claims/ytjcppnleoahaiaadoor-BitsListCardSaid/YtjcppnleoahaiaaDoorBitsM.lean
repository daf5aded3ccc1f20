/- bits.Set: Within. -/
import Derived.Test.YtjcppnleoahaiaaDoorBitsG
import Derived.BigQuiet
import Derived.RegionTactic
import Derived.BigRegion
namespace Go.Proofs.YtjcppnleoahaiaaDoor.P
open Go.RowKit Go.Proofs.YtjcppnleoahaiaaDoorW.PrintWords Go.Proofs.YtjcppnleoahaiaaDoorW.PrintLast Go.Proofs.YtjcppnleoahaiaaDoorW.PrintMore
set_option linter.unusedVariables false
set_option linter.unusedSimpArgs false
theorem exec_load {P : Program} (ev : Operand → Value) (o : Oper) (ty : TypeId) (x : Operand) (g : Nat) (v : Value) (w : World) (ho : o.op = .load ty x) (hx : ev x = .pointer (some ⟨g, 0, none⟩)) (h : (loadVar ty ⟨g, 0, none⟩).run P w = .ok v w) :
    (execOp ev o).run P w = .ok (.value v) w := by
  unfold execOp
  simp only [ho, hx, Instr.loadAt, Instr.sureAddr, Sem.run_bind, Sem.run_pure, Result.andThen_ok, h]
set_option maxRecDepth 100000 in
set_option maxHeartbeats 4000000 in
theorem subset_any (m m' : Nat → Bool) (w : World) :
    Calls Tryd.prog 33 #[.agg (cells m), .agg (cells m')] w fun e w' => e = .returned (.bool (sameF (orF m m') m')) ∧ Below w.heap.size w w' := by
  have hsz := cells_size m
  have hsz' := cells_size m'
  have hcall := or_any m m'
  have heq := eq27 (orF m m') m'
  obtain ⟨cs, hcs⟩ : ∃ cs, cs = cells m := ⟨_, rfl⟩
  obtain ⟨cs', hcs'⟩ : ∃ cs, cs = cells m' := ⟨_, rfl⟩
  obtain ⟨cs2, hcs2⟩ : ∃ cs, cs = cells (orF m m') := ⟨_, rfl⟩
  rw [← hcs, ← hcs', ← hcs2] at hcall
  rw [← hcs', ← hcs2] at heq
  rw [← hcs] at hsz ⊢
  rw [← hcs'] at hsz' ⊢
  have HCALL := Lib.hid hcall
  have hgu : Tryd.prog.eqGuardType Tryd.prog.depth 27 = false := by kernel_rfl
  have hi : (Tryd.prog.info? 27).map (·.size) = some cs.size := by rw [hsz]; kernel_rfl
  have hi' : (Tryd.prog.info? 27).map (·.size) = some cs'.size := by rw [hsz']; kernel_rfl
  clear hcs hcs' hcs2 hcall
  go_enter Tryd.func33, Tryd.ntmps33
  go_wp2_with fail
  obtain ⟨w2, hw2⟩ : ∃ W_, W_ = (w.alloc (.cells cs 27)).alloc (.cells cs' 27) := ⟨_, rfl⟩
  rw [← hw2]
  have HK1 : Hid (w2.heap[w.heap.size]? = some (.cells cs 27 (0, 0))) := Lib.hid (by rw [hw2]; exact blk_alloc (heap_alloc_new w _) _)
  have HK2 : Hid (w2.heap[w.heap.size + 1]? = some (.cells cs' 27 (0, 0))) := Lib.hid (by rw [hw2]; exact blk_new1 w _ _)
  have HB : Hid (Below w.heap.size w w2) := Lib.hid (by rw [hw2]; exact below_alloc (below_alloc (Below.refl _ _) _) _)
  clear hw2
  refine start_ (n := 6) (S := fun w' => (loadVar 27 ⟨w.heap.size, 0, none⟩).run Tryd.prog w' = .ok (.agg cs) w' ∧ (loadVar 27 ⟨w.heap.size + 1, 0, none⟩).run Tryd.prog w' = .ok (.agg cs') w') (ds := []) #[false, false, false, false, false, false] (by kernel_rfl) rfl rfl ⟨run_loadVar_row _ _ 27 27 cs (0, 0) _ (blk_drew HK1.out) Tryd.underlying27 rfl hi, run_loadVar_row _ _ 27 27 cs' (0, 0) _ (blk_drew HK2.out) Tryd.underlying27 rfl hi'⟩ (fun hHeld => ?_)
  refine take_ (i := 0) (N := some 5) (v := ?_) (a' := ?_) #[true, false, false, false, false, false] rfl rfl (by kernel_rfl) (fun _ _ _ h => h) (Or.inl ⟨by rfl, ?_⟩) hHeld ?_ ?_
  rotate_left
  · rintro w' ⟨s0, s1⟩
    refine (exec_load _ _ 27 (.tmp 2) _ _ _ (by rfl) (by rfl) s0).trans ?_
    with_reducible rfl
  rotate_left
  · simp only [Act.put, List.setIfInBounds_toArray, List.set_cons_zero, List.set_cons_succ, i64_w, i32_w]
    rfl
  refine take_ (i := 1) (N := some 6) (v := ?_) (a' := ?_) #[true, true, false, false, false, false] rfl rfl (by kernel_rfl) (fun _ _ _ h => h) (Or.inl ⟨by rfl, ?_⟩) hHeld ?_ ?_
  rotate_left
  · rintro w' ⟨s0, s1⟩
    refine (exec_load _ _ 27 (.tmp 3) _ _ _ (by rfl) (by rfl) s1).trans ?_
    with_reducible rfl
  rotate_left
  · simp only [Act.put, List.setIfInBounds_toArray, List.set_cons_zero, List.set_cons_succ, i64_w, i32_w]
    rfl
  refine take_ (i := 3) (N := some 8) (v := ?_) (a' := ?_) #[true, true, false, true, false, false] rfl rfl (by kernel_rfl) (fun _ _ _ h => h) (Or.inl ⟨by rfl, ?_⟩) hHeld ?_ ?_
  rotate_left
  · rintro w' ⟨s0, s1⟩
    refine (exec_load _ _ 27 (.tmp 3) _ _ _ (by rfl) (by rfl) s1).trans ?_
    with_reducible rfl
  rotate_left
  · simp only [Act.put, List.setIfInBounds_toArray, List.set_cons_zero, List.set_cons_succ, i64_w, i32_w]
    rfl
  refine one_ (i := 2) (N := some 7) #[true, true, true, true, false, false] rfl rfl (by kernel_rfl) (by decide) (fun K hK => ?_)
  refine goes_ Tryd.func24 (by kernel_rfl) rfl #[.agg cs, .agg cs'] (by rfl) rfl rfl (by simp only [List.map_toArray, List.map_cons, List.map_nil]; rfl) ?_
  with_reducible refine (HCALL.out w2.drew).mono ?_
  rintro e w3 ⟨rfl, hb_⟩
  refine ⟨_, rfl, ?_⟩
  have HB3 := Lib.hid (below_step (below_drew (Below.refl w2.heap.size w2)) hb_)
  clear hb_
  refine hK.out _ _ ⟨run_loadVar_row _ _ 27 27 cs (0, 0) _ (blk_below HK1.out HB3.out) Tryd.underlying27 rfl hi, run_loadVar_row _ _ 27 27 cs' (0, 0) _ (blk_below HK2.out HB3.out) Tryd.underlying27 rfl hi'⟩ (fun hHeld => ?_)
  clear hK K
  refine norm_ (a' := ?_) ?_ ?_
  rotate_left
  · show Act.put _ (some 7) _ = _
    simp only [Act.put, List.setIfInBounds_toArray, List.set_cons_zero, List.set_cons_succ, i64_w, i32_w]
    rfl
  refine pure_ (i := 4) (N := some 9) (v := ?_) (a' := ?_) #[true, true, true, true, true, false] rfl rfl (by kernel_rfl) (fun _ _ _ h => h) (Or.inl ⟨by rfl, ?_⟩) ?_ ?_
  rotate_left
  · intro w'
    go_simp
    with_reducible rfl
  rotate_left
  · simp only [Act.put, List.setIfInBounds_toArray, List.set_cons_zero, List.set_cons_succ, i64_w, i32_w]
    rfl
  refine pure_ (i := 5) (N := some 4) (v := ?_) (a' := ?_) #[true, true, true, true, true, true] rfl rfl (by kernel_rfl) (fun _ _ _ h => h) (Or.inl ⟨by rfl, ?_⟩) ?_ ?_
  rotate_left
  · intro w'
    go_simp
    with_reducible rfl
  rotate_left
  · simp only [Act.put, List.setIfInBounds_toArray, List.set_cons_zero, List.set_cons_succ, i64_w, i32_w]
    rfl
  refine done_ (by kernel_rfl) ?_
  go_wp2_with fail
  go_ret
  exact ⟨rfl, below_step HB.out HB3.out⟩
end Go.Proofs.YtjcppnleoahaiaaDoor.P
