/- value.Heap: what lies in memory of a heap, and the contracts of array, cell, Get, Set, Len, Cells. -/
import Derived.Test.YtkhlfdcjgooogaaP0
import Derived.Laws.LoneSync
import Derived.Outline
import Derived.Lib.Hide
namespace Go.Proofs.Ytkhlfdcjgooogaa.P
open Go.RowKit Go.Proofs.YtkhlfdcjgooogaaW.PrintWords Go.Proofs.YtkhlfdcjgooogaaW.PrintLast Go.Proofs.YtkhlfdcjgooogaaW.PrintMore
set_option linter.unusedVariables false
set_option linter.unusedSimpArgs false
theorem getD_lt {α : Type} (l : List α) (d : α) {i : Nat} (h : i < l.length) : l.getD i d = l[i] := by simp [List.getD_eq_getElem?_getD, h]
def ints (xs : List Int) : List Value := xs.map (Value.int .i64)
/-- The arrays' headers: blocks and capacities. -/
def rows : List (Nat × Nat) → List (List Int) → List Value
  | g :: gs, xs :: L => .slice (some ⟨g.1, 0, none⟩) xs.length g.2 :: rows gs L
  | _, _ => []
def cellsOf : List (List Int) → Int
  | [] => 0
  | xs :: L => 1 + xs.length + cellsOf L
structure Arrs (W : World) (ok : Nat → Prop) (v : Value) (gs : List (Nat × Nat)) (L : List (List Int)) : Prop where
  own : W.ownsRow 0 70 1 v L.length (rows gs L)
  vok : ∀ k, v.ownBlock = some k → ok k
  len : gs.length = L.length
  nd : (gs.map Prod.fst).Nodup
  at_ : ∀ j (h : j < gs.length) (h' : j < L.length), ok gs[j].1 ∧ ∃ cur, W.heap[gs[j].1]? = some (.cells cur 3 (0, 0)) ∧ cur.toList.take L[j].length = ints L[j]
/-- A heap of the program's lies at block B; all of its blocks are among those of ok. -/
structure HA (W : World) (B : Nat) (ok : Nat → Prop) (L : List (List Int)) : Prop where
  bok : ok B
  arrs : ∃ v gs, W.heap[B]? = some (.cells #[v, .int .i64 (cellsOf L)] 47 (0, 0)) ∧ Arrs W ok v gs L
/-- A heap of the document's. -/
structure HR (W : World) (B : Nat) (ok : Nat → Prop) (L : List (List Int)) : Prop where
  bok : ok B
  arrs : ∃ v gs, W.heap[B]? = some (.cells #[v] 51 (0, 0)) ∧ Arrs W ok v gs L
theorem own_lt {W : World} {base : Nat} {e : TypeId} {size n : Nat} {v : Value} {xs : List Value} (h : W.ownsRow base e size v n xs) : ∀ k, v.ownBlock = some k → k < W.heap.size := fun k hk => (h.lt k hk).2
theorem Arrs.step {W W' : World} {ok : Nat → Prop} {v : Value} {gs : List (Nat × Nat)} {L : List (List Int)} (h : Arrs W ok v gs L) (hs : ∀ k, k < W.heap.size → ok k → W'.heap[k]? = W.heap[k]?) : Arrs W' ok v gs L :=
  ⟨own_move h.own (fun k hk => hs k (own_lt h.own k hk) (h.vok k hk)), h.vok, h.len, h.nd, fun j hj hj' => ⟨(h.at_ j hj hj').1, let ⟨cur, h1, h2⟩ := (h.at_ j hj hj').2; ⟨cur, (hs _ (blk_lt h1) (h.at_ j hj hj').1).trans h1, h2⟩⟩⟩
theorem HA.step {W W' : World} {B : Nat} {ok : Nat → Prop} {L : List (List Int)} (h : HA W B ok L) (hs : ∀ k, k < W.heap.size → ok k → W'.heap[k]? = W.heap[k]?) : HA W' B ok L := by
  obtain ⟨v, gs, h1, h2⟩ := h.arrs
  exact ⟨h.bok, v, gs, (hs _ (blk_lt h1) h.bok).trans h1, h2.step hs⟩
theorem HR.step {W W' : World} {B : Nat} {ok : Nat → Prop} {L : List (List Int)} (h : HR W B ok L) (hs : ∀ k, k < W.heap.size → ok k → W'.heap[k]? = W.heap[k]?) : HR W' B ok L := by
  obtain ⟨v, gs, h1, h2⟩ := h.arrs
  exact ⟨h.bok, v, gs, (hs _ (blk_lt h1) h.bok).trans h1, h2.step hs⟩
theorem HA.below {W W' : World} {B : Nat} {ok : Nat → Prop} {L : List (List Int)} (h : HA W B ok L) (hb : Below W.heap.size W W') : HA W' B ok L := h.step (fun k hk _ => hb.block k hk)
theorem HR.below {W W' : World} {B : Nat} {ok : Nat → Prop} {L : List (List Int)} (h : HR W B ok L) (hb : Below W.heap.size W W') : HR W' B ok L := h.step (fun k hk _ => hb.block k hk)
theorem rows_len : ∀ (gs : List (Nat × Nat)) (L : List (List Int)), gs.length = L.length → (rows gs L).length = L.length
  | [], [], _ => rfl
  | g :: gs, xs :: L, h => by simp [rows, rows_len gs L (by simpa using h)]
  | [], _ :: _, h => by simp at h
  | _ :: _, [], h => by simp at h
theorem rows_get : ∀ (gs : List (Nat × Nat)) (L : List (List Int)) (j : Nat) (h : j < gs.length) (h' : j < L.length), (rows gs L)[j]? = some (.slice (some ⟨gs[j].1, 0, none⟩) L[j].length gs[j].2)
  | g :: gs, xs :: L, 0, h, h' => rfl
  | g :: gs, xs :: L, j + 1, h, h' => by simpa [rows] using rows_get gs L j (by simpa using h) (by simpa using h')
  | [], _, _, h, _ => by simp at h
  | _ :: _, [], _, _, h' => by simp at h'
/-- The outer list, read at a place. -/
theorem Arrs.get {W : World} {ok : Nat → Prop} {v : Value} {gs : List (Nat × Nat)} {L : List (List Int)} (h : Arrs W ok v gs L) : ∃ A c, v = .slice A L.length c ∧ (L.length = 0 ∨ ∃ g, A = some ⟨g, 0, none⟩ ∧ g < W.heap.size ∧ ∀ j (hj : j < gs.length) (hj' : j < L.length), W.cell? ⟨g, j, none⟩ = some (.slice (some ⟨gs[j].1, 0, none⟩) L[j].length gs[j].2)) := by
  obtain ⟨hl, ho⟩ := h.own
  rcases ho with ⟨e, h0⟩ | ⟨g, cap, cur, e, hb, hh, h1, h2, h3, h4⟩
  · exact ⟨none, 0, by rw [e, h0], .inl h0⟩
  · refine ⟨_, cap, e, .inr ⟨g, rfl, blk_lt hh, fun j hj hj' => ?_⟩⟩
    rw [blk_cell hh j]
    have hr := rows_get gs L j hj hj'
    rw [← h4, List.getElem?_take] at hr
    split at hr
    · simpa using hr
    · cases hr
theorem row_cell {W : World} {d : Nat} {l : List Int} {cur : Array Value} (h : W.heap[d]? = some (.cells cur 3 (0, 0))) (hc : cur.toList.take l.length = ints l) {i : Nat} (hi : i < l.length) : W.cell? ⟨d, i, none⟩ = some (.int .i64 (l.getD i 0)) := by
  rw [blk_cell h i, getD_lt _ _ hi, ← Array.getElem?_toList, ← List.getElem?_take_of_lt hi, hc]
  simp [ints, hi]
/-- .. one of them: its block, its cells. -/
structure RowAt (W : World) (ok : Nat → Prop) (d : Nat) (l : List Int) : Prop where
  lt : d < W.heap.size
  ok : ok d
  cell : ∀ i, i < l.length → W.cell? ⟨d, i, none⟩ = some (.int .i64 (l.getD i 0))
  frozen : ∀ i, W.frozen? ⟨d, i, none⟩ = false
theorem Arrs.one {W : World} {ok : Nat → Prop} {v : Value} {gs : List (Nat × Nat)} {L : List (List Int)} (h : Arrs W ok v gs L) {n : Int} (h1 : 1 ≤ n) (h2 : n ≤ (L.length : Int)) :
    ∃ g c d q, v = .slice (some ⟨g, 0, none⟩) L.length c ∧ g < W.heap.size ∧ gs[(n - 1).toNat]? = some (d, q) ∧ W.cell? ⟨g, n.toNat - 1, none⟩ = some (.slice (some ⟨d, 0, none⟩) (L.getD (n - 1).toNat []).length q) ∧ RowAt W ok d (L.getD (n - 1).toNat []) := by
  obtain ⟨A, c, rfl, hr⟩ := h.get
  rcases hr with h0 | ⟨g, rfl, hg, hr⟩
  · omega
  · have hj' : (n - 1).toNat < L.length := by omega
    have hj : (n - 1).toNat < gs.length := by rw [h.len]; exact hj'
    have e : n.toNat - 1 = (n - 1).toNat := by omega
    obtain ⟨hok, cur, hb, hc⟩ := h.at_ _ hj hj'
    refine ⟨g, c, gs[(n - 1).toNat].1, gs[(n - 1).toNat].2, rfl, hg, List.getElem?_eq_getElem hj, ?_, ?_⟩
    · rw [e, getD_lt _ _ hj']
      exact hr _ hj hj'
    · rw [getD_lt _ _ hj']
      exact ⟨blk_lt hb, hok, fun i hi => row_cell hb hc hi, fun i => blk_frozen hb i⟩
end Go.Proofs.Ytkhlfdcjgooogaa.P
