import Derived.Test.YtkhlfdcjgooogaaRows
import Derived.Test.YtkhlfdcjgooogaaVaI
set_option linter.unusedVariables false
set_option linter.unusedSimpArgs false
namespace Go.Proofs.Ytkhlfdcjgooogaa.valueTypes
open Go.ChangeShapes Go.WideShapes Go.ChangeAt Go.RowKit Go.Proofs.YtkhlfdcjgooogaaW.PrintWords Go.Proofs.Ytkhlfdcjgooogaa.Op Go.Proofs.Ytkhlfdcjgooogaa.P Go.Proofs.Ytkhlfdcjgooogaa.T
open Go.ChangeMaps (open_string shut_string)
theorem own : ownKnob Try.prog.godebug = none := by kernel_rfl
theorem laidOut : laidOutB Try.prog = true := by kernel_rfl
set_option maxRecDepth 100000 in
theorem lifted (os : Os) (started : os.Started) (H : Type) (enc : TypeId × Value → H) :
  ReturnsInHanded {} Try.checked os 8 .any (Rows.valueTypesSpec.pre6 enc Try.prog Try.f8 Rows.valueTypesRow.domain false) (Rows.valueTypesSpec.post enc Try.prog Try.f8 false true false false) := by
 refine returnsInHanded_of_change_shaped (C := Try.checked) own started (by kernel_rfl) Try.func8
  (ChangeSpec.witness6 (enc := enc) (C := Try.checked) false ⟨#[], #[.agg #[.slice none 0 0, .int .i64 0], .slice none 0 0], []⟩ 8 (by kernel_rfl) (by kernel_rfl) (by kernel_rfl) (by kernel_rfl)) ?_
 intro W base args ds gs before hval0 hW hcnd hsz0 hsh _
 have hsz : (DataW.weightsEach Try.prog (Try.f8.params.toList ++ Rows.valueTypesSpec.plain.varTypes Try.prog) (ds ++ gs)).all (· ≤ reachBytes) = true := hsz0
 have hval : ∀ (j : Nat) t v, Try.f8.params[j]? = some t → args[j]? = some v → Value.okWide Try.prog W .any base t v := hval0
 have hW' := hW
 obtain ⟨p, q, hA0, hV, rfl, hfz, hnd⟩ := hW
 have hA : DataW.TrodAll enc Try.prog W 0 (fun _ => true) true Try.f8.params.toList args.toList ds p := hA0
 rw [Try.params8] at hA hval hsz
 obtain ⟨v0, vs0, d0, ds0, p0, q0, hargs, rfl, rfl, h0, r0⟩ := trodAll_cons hA
 obtain ⟨v1, vs1, d1, ds1, p1, q1, rfl, rfl, rfl, h1, r1⟩ := trodAll_cons r0
 obtain ⟨rfl, rfl, rfl⟩ := trodAll_nil r1
 obtain rfl : args = #[v0, v1] := by cases args; simp_all
 obtain ⟨rfl, rfl⟩ := trodVars_none hV
 have k0 := h0
 have lt0 : ∀ x ∈ p0, x.block < W.heap.size := by obtain ⟨m, hm⟩ := k0; exact DataW.trod_lt m _ _ _ hm
 obtain ⟨cs0, rfl, _⟩ := okWide_struct Try.underlying69 (hval 0 69 v0 rfl rfl)
 obtain ⟨fu0, hf0⟩ := h0
 obtain ⟨x0, K0, g0⟩ := tree_wt H enc W fu0 _ _ hf0
 obtain ⟨A0_0, c0_0, e0, hc0_0, hr0_0⟩ := k69_open K0
 obtain rfl := toArray_of e0
 have k1 := h1
 have lt1 : ∀ x ∈ p1, x.block < W.heap.size := by obtain ⟨m, hm⟩ := k1; exact DataW.trod_lt m _ _ _ hm
 obtain ⟨a1, len1, cap1, rfl⟩ := okWide_slice Try.underlying70 (hval 1 70 v1 rfl rfl)
 obtain ⟨fu1, hf1⟩ := h1
 obtain ⟨l1, ⟨b1, c1, e1, hc1, hr1⟩, g1⟩ := rdInts H enc W fu1 _ _ hf1
 obtain ⟨rfl, rfl, rfl⟩ : a1 = b1 ∧ len1 = l1.length ∧ cap1 = c1 := by simpa [Value.cells] using e1
 have hszn : ∀ y ∈ x0.f0, y.f3.size ≤ 140737488351232 := fun y hy => by
  have := List.all_eq_true.1 hsz _ (DataW.weights_mem_each (j := 0) (t := 69) rfl rfl _ (g0 y hy))
  exact of_decide_eq_true this
 clear hA0 hval0 hsz0
 refine (ValueTypes_is _ _ x0.f0 x0.f1 hszn _ _ l1 W hr0_0 hc0_0 (env_shaped hsh) hr1 hc1).mono fun e W' ⟨he, bel⟩ => ?_
 subst he
 exact ⟨_, rfl, _, _, _, [], _, [], hW', trodAll_mk1 (shut_bool Try.underlying4 _), (trodAll_cons_mk (Below.trod laidOut (by kernel_rfl) (of_decide_eq_true (by kernel_rfl)) k0 bel lt0) (trodAll_cons_mk (Below.trod laidOut (by kernel_rfl) (of_decide_eq_true (by kernel_rfl)) k1 bel lt1) trodAll_mk0)), rfl, bel.frame _, fun h => by cases h⟩
theorem over : Rows.valueTypesRow.holds Try.pinned (OpenSpec.ofChange Rows.valueTypesSpec) :=
 OpenClaim.holds_of_wide 8 Try.f8 rfl rfl rfl rfl rfl rfl rfl ⟨rfl, rfl, rfl, rfl, rfl⟩ rfl rfl rfl rfl rfl (by kernel_rfl) Try.func8 (by kernel_rfl)
  (of_decide_eq_true (by kernel_rfl)) (by unfold Func.isWrapper; first | (rw [if_pos (by decide +kernel)]; kernel_rfl) | (rw [if_neg (by decide +kernel)]; exact ⟨rfl, rfl⟩))
  (fun os started H enc _ => lifted os started H enc)
theorem proved : Rows.ValueTypesSaid := over
#print axioms proved
end Go.Proofs.Ytkhlfdcjgooogaa.valueTypes
namespace Go.Proofs.Ytkhlfdcjgooogaa
theorem valueTypes_holds : Rows.ValueTypesSaid := valueTypes.proved
end Go.Proofs.Ytkhlfdcjgooogaa
