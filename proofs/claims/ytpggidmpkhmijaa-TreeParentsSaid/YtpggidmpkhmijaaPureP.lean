/- Plain laws of chapter 4: parents. -/
import Derived.Test.YtpggidmpkhmijaaPureB
import Derived.Test.YtpggidmpkhmijaaPf18
namespace Go.Proofs.Ytpggidmpkhmijaa.P
open Go.RowKit Go.Proofs.YtpggidmpkhmijaaW.PrintWords Go.Proofs.YtpggidmpkhmijaaW.PrintLast Go.Proofs.YtpggidmpkhmijaaW.PrintMore
set_option linter.unusedVariables false
/-- Each kid's cell is set to its node's place. -/
def setK (i : Int) : List Int → List Int → List Int
  | acc, [] => acc
  | acc, k :: ks => setK i (acc.set k.toNat i) ks
def parF : List S24 → Nat → List Int → List Int
  | [], _, acc => acc
  | n :: ns, i, acc => parF ns (i + 1) (setK (i : Int) acc n.f4)
theorem setK_len (i : Int) : ∀ (ks acc : List Int), (setK i acc ks).length = acc.length
  | [], acc => rfl
  | k :: ks, acc => by rw [setK, setK_len i ks]; simp
theorem par_l1 (ns : List S24) (i : Nat) (hi : i < 1000000) (ks : List Int) (hk : ks.length < 1000000) (res : List Int) : ∀ (d j : Nat) (acc : List Int), j + d = ks.length → (∀ k ∈ ks, 0 ≤ k ∧ k < (acc.length : Int)) →
    Ev (fun k => tree_Parents.l0 k (setK (i : Int) acc (ks.drop j)) ns (ns.length : Int) ((i + 1 : Nat) : Int)) res →
    Ev (fun k => tree_Parents.l1 k acc (i : Int) ns (ns.length : Int) (i : Int) ks (ks.length : Int) (j : Int)) res
  | 0, j, acc, hd, hb, h => by
    rw [List.drop_of_length_le (by omega), setK] at h
    exact Ev.step (fun k => by simp only [tree_Parents.l1]; rw [if_neg (by omega), wrapS i (by omega)]) h
  | d + 1, j, acc, hd, hb, h => by
    have hj : j < ks.length := by omega
    rw [List.drop_eq_getElem_cons hj, setK] at h
    have hkj := hb ks[j] (List.getElem_mem hj)
    refine Ev.step (fun k => by simp only [tree_Parents.l1]; rw [if_pos (by omega), if_pos (by omega), if_pos (by omega), rdN ks j hj, if_pos hkj.1, if_pos hkj.2, wrapS j (by omega)]) ?_
    exact par_l1 ns i hi ks hk res d (j + 1) _ (by omega) (fun k hk => by rw [List.length_set]; exact hb k hk) h
theorem par_l0 (ns : List S24) (hn : ns.length < 1000000) (N : Nat) (hk : ∀ x ∈ ns, x.f4.length < 1000000 ∧ ∀ k ∈ x.f4, 0 ≤ k ∧ k < (N : Int)) : ∀ (d i : Nat) (acc : List Int), i + d = ns.length → acc.length = N →
    Ev (fun k => tree_Parents.l0 k acc ns (ns.length : Int) (i : Int)) (parF (ns.drop i) i acc)
  | 0, i, acc, hd, ha => by
    rw [List.drop_of_length_le (by omega), parF]
    exact Ev.step (fun k => by simp only [tree_Parents.l0]; rw [if_neg (by omega)]) (Ev.now _)
  | d + 1, i, acc, hd, ha => by
    have hi : i < ns.length := by omega
    have hx := hk ns[i] (List.getElem_mem hi)
    rw [List.drop_eq_getElem_cons hi, parF]
    refine Ev.step (fun k => by simp only [tree_Parents.l0]; rw [if_pos (by omega), if_pos (by omega), if_pos (by omega), rdT24 ns i hi]) ?_
    refine par_l1 ns i (by omega) ns[i].f4 hx.1 _ ns[i].f4.length 0 acc (by omega) (fun k h => by rw [ha]; exact hx.2 k h) ?_
    rw [List.drop_zero]
    exact par_l0 ns hn N hk d (i + 1) _ (by omega) (by rw [setK_len]; exact ha)
theorem rd_set (l : List Int) (k j : Nat) (v : Int) (hj : j < l.length) : rd (l.set k v) (j : Int) = if k = j then v else rd l (j : Int) := by
  rw [rdN _ j (by simpa using hj), rdN _ j hj, List.getElem_set]
theorem setK_get (i : Int) (j : Nat) : ∀ (ks acc : List Int), j < acc.length → (∀ k ∈ ks, 0 ≤ k) → rd (setK i acc ks) (j : Int) = if (j : Int) ∈ ks then i else rd acc (j : Int)
  | [], acc, hj, h => by simp [setK]
  | k :: ks, acc, hj, h => by
    have h0 := h k (by simp)
    rw [setK, setK_get i j ks _ (by simpa using hj) (fun k' hk => h k' (by simp [hk])), rd_set _ _ _ _ hj]
    by_cases h1 : (j : Int) ∈ ks
    · simp [h1]
    · by_cases h2 : k.toNat = j
      · have : k = (j : Int) := by omega
        simp [h1, this]
      · have : (j : Int) ≠ k := by omega
        simp [h1, h2, this]
/-- Whose kid a place is. -/
def KidOf (ns : List S24) (j i : Nat) : Prop := ∃ h : i < ns.length, (j : Int) ∈ ns[i].f4
theorem parF_get (ns : List S24) (init : List Int) (hk : ∀ x ∈ ns, ∀ k ∈ x.f4, 0 ≤ k) : ∀ (d i : Nat) (acc : List Int), i + d = ns.length → acc.length = init.length →
    (∀ j, j < init.length → (∃ i', i' < i ∧ KidOf ns j i' ∧ rd acc (j : Int) = (i' : Int)) ∨ ((∀ i', i' < i → ¬ KidOf ns j i') ∧ rd acc (j : Int) = rd init (j : Int))) →
    (parF (ns.drop i) i acc).length = init.length ∧ ∀ j, j < init.length → (∃ i', i' < ns.length ∧ KidOf ns j i' ∧ rd (parF (ns.drop i) i acc) (j : Int) = (i' : Int)) ∨ ((∀ i', i' < ns.length → ¬ KidOf ns j i') ∧ rd (parF (ns.drop i) i acc) (j : Int) = rd init (j : Int))
  | 0, i, acc, hd, ha, h => by
    have hi : i = ns.length := by omega
    rw [List.drop_of_length_le (by omega), parF]
    subst hi
    exact ⟨ha, h⟩
  | d + 1, i, acc, hd, ha, h => by
    have hi : i < ns.length := by omega
    rw [List.drop_eq_getElem_cons hi, parF]
    refine parF_get ns init hk d (i + 1) _ (by omega) (by rw [setK_len]; exact ha) (fun j hj => ?_)
    rw [setK_get _ _ _ _ (by omega) (hk _ (List.getElem_mem hi))]
    by_cases hm : (j : Int) ∈ ns[i].f4
    · left
      exact ⟨i, by omega, ⟨hi, hm⟩, by rw [if_pos hm]⟩
    · rw [if_neg hm]
      rcases h j hj with ⟨i', h1, h2, h3⟩ | ⟨h1, h2⟩
      · exact .inl ⟨i', by omega, h2, h3⟩
      · right
        refine ⟨fun i' hi' hK => ?_, h2⟩
        rcases Nat.lt_succ_iff_lt_or_eq.1 hi' with h4 | rfl
        · exact h1 i' h4 hK
        · obtain ⟨_, h5⟩ := hK
          exact hm h5

/-! ### places of roots -/
theorem roots_mem : ∀ (ts : List RT) (o : Nat) (k : Int), k ∈ RT.roots o ts → (o : Int) ≤ k ∧ k < (o : Int) + RT.sizes ts
  | [], o, k, h => by simp [RT.roots] at h
  | t :: ts, o, k, h => by
    have hp := RT.size_pos t
    rw [RT.roots] at h
    rw [RT.sizes]
    rcases List.mem_cons.1 h with rfl | h
    · omega
    · have := roots_mem ts (o + t.size) k h; omega
theorem roots_count : ∀ (ts : List RT) (o : Nat) (k : Int), k ∈ RT.roots o ts → ((RT.roots o ts).filter (fun x => x == k)).length = 1
  | [], o, k, h => by simp [RT.roots] at h
  | t :: ts, o, k, h => by
    have hp := RT.size_pos t
    rw [RT.roots] at h ⊢
    rcases List.mem_cons.1 h with h1 | h1
    · rw [List.filter_cons_of_pos (by simp [h1]), List.length_cons, List.filter_eq_nil_iff.2 (fun y hy => ?_)]
      · rfl
      · have := roots_mem ts (o + t.size) y hy
        simp
        omega
    · have hm := roots_mem ts (o + t.size) k h1
      rw [List.filter_cons_of_neg (by simp; omega)]
      exact roots_count ts (o + t.size) k h1
mutual
/-- Each place below a root is a kid of some place. -/
theorem kid_of (ns : List S24) : ∀ (t : RT) (o j : Nat), AtT ns o t → o ≤ j → j + 1 < o + t.size → ∃ i, KidOf ns j i
  | .node x ks, o, j, h, h0, h1 => by
    rw [RT.size] at h1
    obtain ⟨hF, hl, hx⟩ := h.kids
    rcases kids_of ns ks o j hF (by omega) h0 (by omega) with h | h
    · exact ⟨o + RT.sizes ks, hl, by rw [hx]; exact h⟩
    · exact h
theorem kids_of (ns : List S24) : ∀ (ts : List RT) (o j : Nat), AtF ns o ts → o ≤ ns.length → o ≤ j → j < o + RT.sizes ts → (j : Int) ∈ RT.roots o ts ∨ ∃ i, KidOf ns j i
  | [], o, j, h, ho, h0, h1 => by rw [RT.sizes] at h1; omega
  | t :: ts, o, j, h, ho, h0, h1 => by
    obtain ⟨ht, hts⟩ := h.head ho
    have hp := RT.size_pos t
    rw [RT.sizes] at h1
    rw [RT.roots]
    by_cases ha : j + 1 < o + t.size
    · exact .inr (kid_of ns t o j ht h0 ha)
    · by_cases hb : j + 1 = o + t.size
      · left
        rw [show (j : Int) = (o : Int) + t.size - 1 from by omega]
        simp
      · rcases kids_of ns ts (o + t.size) j hts ht.le (by omega) (by omega) with h | h
        · exact .inl (List.mem_cons_of_mem _ h)
        · exact .inr h
end
/-- A node of a sound tree: its kids' places. -/
theorem node_at (T : RT) (i : Nat) (hi : i < T.size) : ∃ (x : S24) (ks : List RT) (o : Nat), rd_T24 (RT.flat 0 T) (i : Int) = { x with f4 := RT.roots o ks } ∧ o + RT.sizes ks = i := by
  have hat : AtT (RT.flat 0 T) 0 T := by unfold AtT; rw [List.drop_zero, ← RT.flat_len 0 T, List.take_length]
  obtain ⟨t, o', hs, _⟩ := subAt (RT.flat 0 T) T 0 i hat hi
  have hroot := hs.root
  have htp := RT.size_pos t
  cases t with
  | node y ks =>
    have := mem_flat_at hs.at_
    rw [RT.size] at hroot
    refine ⟨y, ks, o', ?_, by omega⟩
    rw [← this, RT.size]
    congr 1
    omega
end Go.Proofs.Ytpggidmpkhmijaa.P
