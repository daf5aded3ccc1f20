import Derived.Test.YtkhlfdcjgooogaaOpen
import Derived.Shelf.Vars
import Derived.HandedShaped
set_option linter.unusedVariables false
set_option linter.unusedSimpArgs false
namespace Go.Proofs.Ytkhlfdcjgooogaa.T
open Go.RowKit Go.ChangeShapes Go.WideShapes Go.ChangeAt Go.Deep Go.Proofs.YtkhlfdcjgooogaaW.PrintWords Go.Proofs.Ytkhlfdcjgooogaa.Op Go.Proofs.Ytkhlfdcjgooogaa.P
theorem env_shaped {W : World} (hsh : W.ShapedOpen Try.prog) : Env W := by
 have hm := cell_of_shapedOpen_int (g := 0) (t := 3) (zero := #[.int .i64 0]) (k := .i64) hsh (of_decide_eq_true (by kernel_rfl)) (by kernel_rfl) rfl (by kernel_rfl) (by kernel_rfl) Try.underlying3
 obtain ⟨m, h⟩ := hm
 exact ⟨⟨m, h⟩, World.block_lt_of_cell? W _ h⟩
theorem cNode : Try.prog.cellsOf 101 = 5 := by kernel_rfl
theorem cTree : Try.prog.cellsOf 69 = 2 := by kernel_rfl
theorem cInt : Try.prog.cellsOf 3 = 1 := by kernel_rfl
theorem cStr : Try.prog.cellsOf 9 = 1 := by kernel_rfl
theorem cInts : Try.prog.cellsOf 70 = 1 := by kernel_rfl
theorem cNodes : Try.prog.cellsOf 67 = 1 := by kernel_rfl
theorem rdInts : Rd Try.prog 70 (Kd.slice 3 (Kd.int .i64)) (fun xs => xs.length ≤ maxLen ∧ ∀ a ∈ xs, (Lit.int .i64 a).wf = true) := Rd.slice Try.underlying70 cInt (Rd.int Try.underlying3)
theorem weights_all {H : Type} {P : Program} {e : TypeId} : ∀ {ds : List (DataW H)} {d : DataW H}, d ∈ ds → ∀ n ∈ d.weights P e, n ∈ DataW.weightsAll P e ds
 | d0 :: ds, d, hd, n, hn => by
  rw [DataW.weightsAll, List.mem_append]
  rcases List.mem_cons.1 hd with rfl | h
  ·exact .inl hn
  ·exact .inr (weights_all h n hn)
theorem slice_wt {α : Type} {P : Program} {t e : TypeId} {d : Kd α} (wt : α → Nat) (ht : P.underlying t = some (.slice e)) (hC : P.cellsOf e = d.sz)
  (he : ∀ (H : Type) (enc : TypeId × Value → H) (w : World) (fuel : Nat) (cs : List Value) (x : DataW H × List MemPlace), DataW.trod enc P w 0 (fun _ => true) true fuel e cs = some x → ∃ a, d.K w a cs ∧ wt a ∈ x.1.weights P e)
  (H : Type) (enc : TypeId × Value → H) (w : World) (fuel : Nat) (cs : List Value) (x : DataW H × List MemPlace) (h : DataW.trod enc P w 0 (fun _ => true) true fuel t cs = some x) :
  ∃ xs, (Kd.slice e d).K w xs cs ∧ ∀ a ∈ xs, wt a ∈ x.1.weights P t := by
 rcases open_slice ht h with ⟨rfl, _⟩ | ⟨a, len, cap, m, n, D, Pl, rfl, _, hl, hm, hmm, rfl, hi⟩
 ·exact ⟨[], ⟨none, 0, rfl, Nat.le_refl _, rfl, by simp, fun hp => absurd hp (by simp)⟩, fun a ha => by cases ha⟩
 ·have hlen : len ≤ maxLen := Nat.le_trans hl hm
  have hlm : len ≤ m := by rw [hmm]; split <;> omega
  have hx : ∀ i : Fin len, ∃ y : α, wt y ∈ (D i.val).weights P e ∧ ∃ cs', cs'.length = d.sz ∧ d.K w y cs' ∧ ∀ j u, cs'[j]? = some u → w.cell? (a.add (i.val * d.sz + j)) = some u := fun i => by
   obtain ⟨cs', hc, ht'⟩ := hi i.val (by have := i.isLt; omega)
   obtain ⟨y, hK, hG⟩ := he H enc w n cs' _ ht'
   obtain ⟨_, hcl, hat⟩ := World.cells?_some hc
   refine ⟨y, hG, cs', by rw [hcl, hC], hK, fun j u hu => ?_⟩
   have hj : j < P.cellsOf e := by rw [← hcl]; exact (List.getElem?_eq_some_iff.1 hu).1
   have := hat j hj
   rw [Go.Deep.add_add, hC] at this
   exact this.trans hu
  refine ⟨List.ofFn fun i => Classical.choose (hx i), ⟨some a, cap, by simp, by simpa using hl, ?_⟩, fun y hy => ?_⟩
  ·refine ⟨by simp, by simp only [List.length_ofFn]; simp only [maxLen] at hlen; omega, fun _ => ⟨a, rfl, fun j p hj => ?_⟩⟩
   obtain ⟨hjl, hp⟩ := List.getElem?_eq_some_iff.1 hj
   rw [List.length_ofFn] at hjl
   rw [List.getElem_ofFn] at hp
   subst hp
   obtain ⟨_, c, h1, h2, h3⟩ := Classical.choose_spec (hx ⟨j, hjl⟩)
   exact ⟨c, h1, h2, h3⟩
  ·obtain ⟨i, hi'⟩ := List.mem_ofFn.1 hy
   rw [← hi']
   have h1 := (Classical.choose_spec (hx i)).1
   simp only [DataW.weights, ht]
   refine List.mem_cons_of_mem _ (List.mem_append.2 (.inl ?_))
   exact weights_all (List.mem_map.2 ⟨i.val, List.mem_range.2 i.isLt, rfl⟩) _ h1
theorem node_wt (H : Type) (enc : TypeId × Value → H) (w : World) (fuel : Nat) (cs : List Value) (x : DataW H × List MemPlace) (h : DataW.trod enc Try.prog w 0 (fun _ => true) true fuel 101 cs = some x) :
  ∃ a : S101, k101.K w a cs ∧ a.f3.size ∈ x.1.weights Try.prog 101 := by
 obtain ⟨xs, n, _, hx, hlen, hxl, hg⟩ := DataW.trod_struct Try.underlying101 h
 rw [cNode] at hlen
 have hs : ∀ j, j < 5 → (xs[j]?).isSome = true := fun j hj => by
  rw [List.getElem?_eq_getElem (by rw [hxl]; exact hj)]; rfl
 obtain ⟨a0, h0, g0⟩ := Rd.field (Rd.int Try.underlying3) cInt _ (hs 0 (by decide)) (hg 0 _ rfl)
 obtain ⟨a1, h1, g1⟩ := Rd.field (Rd.int Try.underlying3) cInt _ (hs 1 (by decide)) (hg 1 _ rfl)
 obtain ⟨a2, h2, g2⟩ := Rd.field (Rd.int Try.underlying3) cInt _ (hs 2 (by decide)) (hg 2 _ rfl)
 have h3 : DataW.trod enc Try.prog w 0 (fun _ => true) true n 9 ((cs.drop 3).take (Try.prog.cellsOf 9)) = xs[3]? := hg 3 _ rfl
 obtain ⟨z, hz⟩ := Option.isSome_iff_exists.1 (hs 3 (by decide))
 rw [hz, cStr] at h3
 obtain ⟨a3, e3, e4, _⟩ := DataW.trod_string Try.underlying9 h3
 obtain ⟨a4, h4, g4⟩ := Rd.field rdInts cInts _ (hs 4 (by decide)) (hg 4 _ rfl)
 refine ⟨⟨a0, a1, a2, a3, a4⟩, pairK 0 h0 (pairK 1 h1 (pairK 2 h2 (pairK 3 e3 (lastK 4 hlen h4)))), ?_⟩
 rw [hx]
 simp only [DataW.weights, Try.underlying101]
 refine DataW.weights_mem_each (j := 3) (t := 9) (d := .lit (.string a3.data.toList)) rfl ?_ _ (by simp [DataW.weights])
 rw [List.getElem?_map, hz, e4]
 rfl
theorem nodes_wt (H : Type) (enc : TypeId × Value → H) (w : World) (fuel : Nat) (cs : List Value) (x : DataW H × List MemPlace) (h : DataW.trod enc Try.prog w 0 (fun _ => true) true fuel 67 cs = some x) :
  ∃ l : List S101, (Kd.slice 101 k101).K w l cs ∧ ∀ a ∈ l, a.f3.size ∈ x.1.weights Try.prog 67 :=
 slice_wt (fun a : S101 => a.f3.size) Try.underlying67 cNode node_wt H enc w fuel cs x h
theorem tree_wt (H : Type) (enc : TypeId × Value → H) (w : World) (fuel : Nat) (cs : List Value) (x : DataW H × List MemPlace) (h : DataW.trod enc Try.prog w 0 (fun _ => true) true fuel 69 cs = some x) :
  ∃ a : S69, k69.K w a cs ∧ ∀ y ∈ a.f0, y.f3.size ∈ x.1.weights Try.prog 69 := by
 obtain ⟨xs, n, _, hx, hlen, hxl, hg⟩ := DataW.trod_struct Try.underlying69 h
 rw [cTree] at hlen
 have hs : ∀ j, j < 2 → (xs[j]?).isSome = true := fun j hj => by
  rw [List.getElem?_eq_getElem (by rw [hxl]; exact hj)]; rfl
 have h0 : DataW.trod enc Try.prog w 0 (fun _ => true) true n 67 ((cs.drop 0).take (Try.prog.cellsOf 67)) = xs[0]? := hg 0 _ rfl
 obtain ⟨z, hz⟩ := Option.isSome_iff_exists.1 (hs 0 (by decide))
 rw [hz, cNodes] at h0
 obtain ⟨a0, e0, g0⟩ := nodes_wt H enc w n _ _ h0
 obtain ⟨a1, h1, g1⟩ := Rd.field (Rd.int Try.underlying3) cInt _ (hs 1 (by decide)) (hg 1 _ rfl)
 refine ⟨⟨a0, a1⟩, pairK 0 e0 (lastK 1 hlen h1), fun y hy => ?_⟩
 rw [hx]
 simp only [DataW.weights, Try.underlying69]
 refine DataW.weights_mem_each (j := 0) (t := 67) (d := z.1) rfl ?_ _ (g0 y hy)
 rw [List.getElem?_map, hz]
 rfl
end Go.Proofs.Ytkhlfdcjgooogaa.T
