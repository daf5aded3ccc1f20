/- Sound trees are trees: nodes laid out, kids ahead of their nodes. -/
import Derived.Test.YtpggidmpkhmijaaHsizes
namespace Go.Proofs.Ytpggidmpkhmijaa.P
open Go.RowKit Go.Proofs.YtpggidmpkhmijaaW.PrintWords
set_option linter.unusedVariables false

/-- A tree: a node (whose list of kids does not count) over trees. -/
inductive RT where
  | node (x : S24) (kids : List RT) : RT
mutual
def RT.size : RT → Nat
  | .node _ ks => RT.sizes ks + 1
def RT.sizes : List RT → Nat
  | [] => 0
  | t :: ts => RT.size t + RT.sizes ts
end
/-- The places of the roots of trees that are laid from o on. -/
def RT.roots (o : Nat) : List RT → List Int
  | [] => []
  | t :: ts => ((o : Int) + t.size - 1) :: RT.roots (o + t.size) ts
mutual
def RT.flat (o : Nat) : RT → List S24
  | .node x ks => RT.flats o ks ++ [{ x with f4 := RT.roots o ks }]
def RT.flats (o : Nat) : List RT → List S24
  | [] => []
  | t :: ts => RT.flat o t ++ RT.flats (o + RT.size t) ts
end
mutual
/-- The sizes of a tree's nodes' trees, in the nodes' order. -/
def RT.szs : RT → List Int
  | .node _ ks => RT.szss ks ++ [(RT.sizes ks : Int) + 1]
def RT.szss : List RT → List Int
  | [] => []
  | t :: ts => RT.szs t ++ RT.szss ts
end
mutual
def RT.depth : RT → Nat
  | .node _ ks => RT.depths ks + 1
def RT.depths : List RT → Nat
  | [] => 0
  | t :: ts => max (RT.depth t) (RT.depths ts)
end
theorem RT.size_pos : ∀ t : RT, 0 < t.size
  | .node _ ks => by simp [RT.size]
theorem RT.depth_pos : ∀ t : RT, 0 < t.depth
  | .node _ ks => by simp [RT.depth]
mutual
theorem RT.flat_len (o : Nat) : ∀ t : RT, (RT.flat o t).length = t.size
  | .node x ks => by simp [RT.flat, RT.size, RT.flats_len o ks]
theorem RT.flats_len (o : Nat) : ∀ ts : List RT, (RT.flats o ts).length = RT.sizes ts
  | [] => rfl
  | t :: ts => by simp [RT.flats, RT.sizes, RT.flat_len o t, RT.flats_len (o + t.size) ts]
end
mutual
theorem RT.szs_len : ∀ t : RT, t.szs.length = t.size
  | .node x ks => by simp [RT.szs, RT.size, RT.szss_len ks]
theorem RT.szss_len : ∀ ts : List RT, (RT.szss ts).length = RT.sizes ts
  | [] => rfl
  | t :: ts => by simp [RT.szss, RT.sizes, RT.szs_len t, RT.szss_len ts]
end
theorem RT.roots_len (o : Nat) : ∀ ts : List RT, (RT.roots o ts).length = ts.length
  | [] => rfl
  | t :: ts => by simp [RT.roots, RT.roots_len (o + t.size) ts]
theorem RT.depths_le {t : RT} {ts : List RT} (h : t ∈ ts) : t.depth ≤ RT.depths ts := by
  induction ts with
  | nil => cases h
  | cons a ts ih =>
    rw [RT.depths]
    rcases List.mem_cons.1 h with rfl | h
    · exact Nat.le_max_left _ _
    · exact Nat.le_trans (ih h) (Nat.le_max_right _ _)
theorem RT.sizes_le {t : RT} {ts : List RT} (h : t ∈ ts) : t.size ≤ RT.sizes ts := by
  induction ts with
  | nil => cases h
  | cons a ts ih =>
    rw [RT.sizes]
    rcases List.mem_cons.1 h with rfl | h
    · omega
    · have := ih h; omega
theorem RT.sizes_append : ∀ (a b : List RT), RT.sizes (a ++ b) = RT.sizes a + RT.sizes b
  | [], b => by simp [RT.sizes]
  | t :: ts, b => by simp [RT.sizes, RT.sizes_append ts b]; omega
theorem RT.roots_append (o : Nat) : ∀ (a b : List RT), RT.roots o (a ++ b) = RT.roots o a ++ RT.roots (o + RT.sizes a) b
  | [], b => by simp [RT.roots, RT.sizes]
  | t :: ts, b => by simp [RT.roots, RT.sizes, RT.roots_append (o + t.size) ts b, Nat.add_assoc]
theorem RT.flats_append (o : Nat) : ∀ (a b : List RT), RT.flats o (a ++ b) = RT.flats o a ++ RT.flats (o + RT.sizes a) b
  | [], b => by simp [RT.flats, RT.sizes]
  | t :: ts, b => by simp [RT.flats, RT.sizes, RT.flats_append (o + t.size) ts b, Nat.add_assoc]
theorem RT.szss_append : ∀ (a b : List RT), RT.szss (a ++ b) = RT.szss a ++ RT.szss b
  | [], b => rfl
  | t :: ts, b => by simp [RT.szss, RT.szss_append ts b]

/-! ### From a tree to its sizes -/
theorem rd_append_left (a b : List Int) (i : Nat) (h : i < a.length) : rd (a ++ b) (i : Int) = rd a (i : Int) := by
  unfold rd
  rw [List.getD_eq_getElem?_getD, List.getD_eq_getElem?_getD]
  simp [List.getElem?_append_left h]
theorem rd_append_right (a b : List Int) (i : Nat) : rd (a ++ b) ((a.length + i : Nat) : Int) = rd b (i : Int) := by
  unfold rd
  rw [Int.toNat_natCast, Int.toNat_natCast, List.getD_eq_getElem?_getD, List.getD_eq_getElem?_getD, List.getElem?_append_right (by omega), Nat.add_sub_cancel_left]
theorem RT.szs_last (t : RT) : rd t.szs ((t.size - 1 : Nat) : Int) = t.size := by
  cases t with
  | node x ks =>
    have : rd (RT.szss ks ++ [(RT.sizes ks : Int) + 1]) ((((RT.szss ks).length + 0 : Nat)) : Int) = (RT.sizes ks : Int) + 1 := by rw [rd_append_right]; rfl
    simp only [RT.szs, RT.size, Nat.add_sub_cancel]
    rw [RT.szss_len, Nat.add_zero] at this
    rw [this]
    omega
/-- Kids taken from the last to the first: each stands where it must. -/
theorem inner_roots : ∀ (ts : List RT) (pre z tail : List Int), z = pre ++ RT.szss ts ++ tail →
    ∀ (s : Int) (ks : List Int), szInner z ((RT.roots pre.length ts).reverse ++ ks) s ((pre.length : Int) + RT.sizes ts - 1) = szInner z ks (s + RT.sizes ts) ((pre.length : Int) - 1)
  | [], pre, z, tail, hz, s, ks => by simp [RT.roots, RT.sizes]
  | t :: ts, pre, z, tail, hz, s, ks => by
    have hp := RT.size_pos t
    have ih := inner_roots ts (pre ++ t.szs) z tail (by rw [hz]; simp [RT.szss]) s ((((pre.length : Int) + t.size - 1)) :: ks)
    rw [List.length_append, RT.szs_len] at ih
    rw [RT.roots, RT.sizes, List.reverse_cons, List.append_assoc, List.singleton_append]
    rw [show ((pre.length : Int) + ((t.size + RT.sizes ts : Nat) : Int) - 1) = (((pre.length + t.size : Nat) : Int) + (RT.sizes ts : Int) - 1) from by omega, ih]
    have hr : rd z ((pre.length : Int) + t.size - 1) = t.size := by
      rw [hz, RT.szss, show ((pre.length : Int) + t.size - 1) = ((pre.length + (t.size - 1) : Nat) : Int) from by omega, List.append_assoc, rd_append_right, List.append_assoc, rd_append_left _ _ _ (by rw [RT.szs_len]; omega), RT.szs_last]
    simp only [szInner]
    rw [if_pos ⟨by omega, by omega⟩, hr]
    congr 1 <;> omega
mutual
/-- What is laid out of a tree has its sizes. -/
theorem outer_flat : ∀ (t : RT) (out : List Int) (rest : List S24), szOuter (RT.flat out.length t ++ rest) out = szOuter rest (out ++ t.szs)
  | .node x ks, out, rest => by
    have h := outer_flats ks out ({ x with f4 := RT.roots out.length ks } :: rest)
    rw [RT.flat, List.append_assoc, List.singleton_append, h, szOuter]
    have hi := inner_roots ks out (out ++ RT.szss ks) [] (by simp) 1 []
    rw [List.append_nil] at hi
    rw [show (((out ++ RT.szss ks).length : Int) - 1) = ((out.length : Int) + RT.sizes ks - 1) from by rw [List.length_append, RT.szss_len]; omega, hi]
    simp only [szInner, RT.szs, List.append_assoc]
    rw [show (1 : Int) + RT.sizes ks = (RT.sizes ks : Int) + 1 from by omega]
theorem outer_flats : ∀ (ts : List RT) (out : List Int) (rest : List S24), szOuter (RT.flats out.length ts ++ rest) out = szOuter rest (out ++ RT.szss ts)
  | [], out, rest => by simp [RT.flats, RT.szss]
  | t :: ts, out, rest => by
    have h2 := outer_flats ts (out ++ t.szs) rest
    rw [List.length_append, RT.szs_len] at h2
    rw [RT.flats, List.append_assoc, outer_flat t out, h2, RT.szss, List.append_assoc]
end

/-! ### From sizes to a tree -/
/-- A tree, trees, that are laid at a place of nodes. -/
def AtT (ns : List S24) (o : Nat) (t : RT) : Prop := (ns.drop o).take t.size = RT.flat o t
def AtF (ns : List S24) (o : Nat) (ts : List RT) : Prop := (ns.drop o).take (RT.sizes ts) = RT.flats o ts
theorem AtT.le {ns : List S24} {o : Nat} {t : RT} (h : AtT ns o t) : o + t.size ≤ ns.length := by
  have h1 := congrArg List.length h
  have := RT.size_pos t
  rw [List.length_take, List.length_drop, RT.flat_len] at h1
  omega
theorem AtF.le {ns : List S24} {o : Nat} {ts : List RT} (h : AtF ns o ts) (ho : o ≤ ns.length) : o + RT.sizes ts ≤ ns.length := by
  have h1 := congrArg List.length h
  rw [List.length_take, List.length_drop, RT.flats_len] at h1
  omega
theorem AtF.nil (ns : List S24) (o : Nat) : AtF ns o [] := by simp [AtF, RT.sizes, RT.flats]
theorem AtF.cons {ns : List S24} {o : Nat} {t : RT} {ts : List RT} (h : AtT ns o t) (k : AtF ns (o + t.size) ts) : AtF ns o (t :: ts) := by
  unfold AtF at k ⊢
  rw [RT.sizes, List.take_add, RT.flats, h, List.drop_drop, k]
theorem AtT.node {ns : List S24} {o : Nat} {x : S24} {ks : List RT} (h : AtF ns o ks) (hl : o + RT.sizes ks < ns.length) (hx : ns[o + RT.sizes ks] = { x with f4 := RT.roots o ks }) : AtT ns o (.node x ks) := by
  unfold AtT
  rw [RT.size, List.take_add, RT.flat, h, List.drop_drop, List.drop_eq_getElem_cons hl, hx]
  rfl
theorem AtT.kids {ns : List S24} {o : Nat} {x : S24} {ks : List RT} (h : AtT ns o (.node x ks)) : AtF ns o ks ∧ ∃ hl : o + RT.sizes ks < ns.length, ns[o + RT.sizes ks] = { x with f4 := RT.roots o ks } := by
  have hle := h.le
  rw [RT.size] at hle
  unfold AtT at h
  rw [RT.size, List.take_add, RT.flat, List.drop_drop, List.drop_eq_getElem_cons (by omega : o + RT.sizes ks < ns.length)] at h
  have h2 := List.append_inj h (by rw [List.length_take, List.length_drop, RT.flats_len]; omega)
  refine ⟨h2.1, by omega, ?_⟩
  have := h2.2
  rw [List.take_succ_cons, List.take_zero] at this
  exact (List.cons.inj this).1
theorem AtF.head {ns : List S24} {o : Nat} {t : RT} {ts : List RT} (h : AtF ns o (t :: ts)) (ho : o ≤ ns.length) : AtT ns o t ∧ AtF ns (o + t.size) ts := by
  have hle := h.le ho
  rw [RT.sizes] at hle
  unfold AtF at h
  rw [RT.sizes, List.take_add, RT.flats, List.drop_drop] at h
  have h2 := List.append_inj h (by rw [List.length_take, List.length_drop, RT.flat_len]; omega)
  exact ⟨h2.1, h2.2⟩
theorem outer_spec : ∀ (ns : List S24) (acc out : List Int), szOuter ns acc = some out → ∃ suf, out = acc ++ suf ∧ suf.length = ns.length ∧
    ∀ (i : Nat) (h : i < ns.length), szInner (out.take (acc.length + i)) ns[i].f4.reverse 1 (((acc.length + i : Nat) : Int) - 1) = some (rd out ((acc.length + i : Nat) : Int))
  | [], acc, out, h => by
    simp only [szOuter, Option.some.injEq] at h
    exact ⟨[], by simp [h], rfl, fun i h => by simp at h⟩
  | n :: ns, acc, out, h => by
    rw [szOuter] at h
    split at h
    · cases h
    · rename_i s hs
      obtain ⟨suf, h1, h2, h3⟩ := outer_spec ns (acc ++ [s]) out h
      refine ⟨s :: suf, by simp [h1], by simp [h2], fun i hi => ?_⟩
      cases i with
      | zero =>
        have e1 : out.take (acc.length + 0) = acc := by rw [h1, Nat.add_zero, List.append_assoc, List.take_left]
        have e2 : rd out ((acc.length + 0 : Nat) : Int) = s := by rw [h1, List.append_assoc, rd_append_right]; rfl
        rw [e1, e2]
        simpa using hs
      | succ i =>
        have := h3 i (by simpa using hi)
        rw [List.length_append, List.length_singleton] at this
        rw [show acc.length + (i + 1) = acc.length + 1 + i from by omega]
        simpa using this
def OkAt (ns : List S24) (out : List Int) (k : Nat) : Prop := ∃ t : RT, (t.size : Int) = rd out k ∧ t.size ≤ k + 1 ∧ AtT ns (k + 1 - t.size) t
theorem build_inner (ns : List S24) (out : List Int) (i : Nat) (hi : i ≤ ns.length) (IH : ∀ k, k < i → OkAt ns out k) : ∀ (ks : List Int) (s r : Int) (ts : List RT) (o : Nat), o ≤ i → AtF ns o ts → s = 1 + RT.sizes ts →
    szInner out ks s ((o : Int) - 1) = some r → ∃ ts' o', o' ≤ o ∧ AtF ns o' ts' ∧ r = 1 + RT.sizes ts' ∧ RT.roots o' ts' = ks.reverse ++ RT.roots o ts ∧ o' + RT.sizes ts' = o + RT.sizes ts
  | [], s, r, ts, o, ho, hF, hs, h => by
    simp only [szInner, Option.some.injEq] at h
    exact ⟨ts, o, Nat.le_refl _, hF, by rw [← h, hs], by simp, rfl⟩
  | k :: ks, s, r, ts, o, ho, hF, hs, h => by
    simp only [szInner] at h
    split at h
    · rename_i hc
      have hk : k = ((o - 1 : Nat) : Int) := by omega
      obtain ⟨t, ht1, ht2, ht3⟩ := IH (o - 1) (by omega)
      rw [← hk] at ht1
      rw [show o - 1 + 1 = o from by omega] at ht2 ht3
      have hF2 : AtF ns (o - t.size) (t :: ts) := AtF.cons ht3 (by rw [show o - t.size + t.size = o from by omega]; exact hF)
      rw [← ht1, show k - (t.size : Int) = ((o - t.size : Nat) : Int) - 1 from by omega] at h
      obtain ⟨ts', o', h1, h2, h3, h4, h5⟩ := build_inner ns out i hi IH ks _ r (t :: ts) (o - t.size) (by omega) hF2 (by rw [RT.sizes]; omega) h
      refine ⟨ts', o', by omega, h2, h3, ?_, by rw [h5, RT.sizes]; omega⟩
      rw [h4, RT.roots, List.reverse_cons, List.append_assoc, List.singleton_append, show o - t.size + t.size = o from by omega, show ((o - t.size : Nat) : Int) + (t.size : Int) - 1 = k from by omega]
    · cases h
theorem rd_take (l : List Int) (n i : Nat) (h : i < n) : rd (l.take n) (i : Int) = rd l (i : Int) := by
  unfold rd
  rw [Int.toNat_natCast, List.getD_eq_getElem?_getD, List.getD_eq_getElem?_getD, List.getElem?_take_of_lt h]
/-- Each node of nodes that stand as they must is the root of a tree that is laid there. -/
theorem okAt_of {ns : List S24} {out : List Int} (h : szOuter ns [] = some out) : ∀ i, i < ns.length → ∃ (x : S24) (ks : List RT) (o : Nat), x = ns.getD i z24 ∧ AtT ns o (.node x ks) ∧ o + RT.sizes ks = i ∧ ((RT.node x ks).size : Int) = rd out i := by
  obtain ⟨suf, h1, h2, h3⟩ := outer_spec ns [] out h
  intro i
  induction i using Nat.strongRecOn with
  | _ i IH =>
    intro hi
    have hs := h3 i hi
    simp only [List.length_nil, Nat.zero_add] at hs
    have IH' : ∀ k, k < i → OkAt ns (out.take i) k := fun k hk => by
      obtain ⟨x, ks, o, _, hat, he, hz⟩ := IH k hk (by omega)
      refine ⟨.node x ks, by rw [rd_take _ _ _ hk]; exact hz, by rw [RT.size]; omega, ?_⟩
      rw [RT.size, show k + 1 - (RT.sizes ks + 1) = o from by omega]
      exact hat
    obtain ⟨ts', o', q1, q2, q3, q4, q5⟩ := build_inner ns (out.take i) i (by omega) IH' _ _ _ [] i (Nat.le_refl _) (AtF.nil _ _) (by simp [RT.sizes]) hs
    simp only [RT.sizes, Nat.add_zero] at q5
    simp only [List.reverse_reverse, RT.roots, List.append_nil] at q4
    refine ⟨ns[i], ts', o', by simp [hi], AtT.node q2 (by omega) ?_, q5, by rw [RT.size, q3]; omega⟩
    simp only [q5, q4]
/-- Nodes that stand as they must, the last one's tree being all: they are a tree laid out. -/
theorem flat_of {ns : List S24} {out : List Int} (h : szOuter ns [] = some out) (hn : 0 < ns.length) (hz : rd out ((ns.length - 1 : Nat) : Int) = ns.length) : ∃ t : RT, ns = RT.flat 0 t ∧ t.size = ns.length := by
  obtain ⟨x, ks, o, _, hat, he, hsz⟩ := okAt_of h (ns.length - 1) (by omega)
  rw [hz] at hsz
  have hs : (RT.node x ks).size = ns.length := by omega
  have ho : o = 0 := by rw [RT.size] at hs; omega
  subst ho
  refine ⟨.node x ks, ?_, hs⟩
  unfold AtT at hat
  rw [List.drop_zero, hs, List.take_length] at hat
  exact hat
end Go.Proofs.Ytpggidmpkhmijaa.P
