import Derived.Test.YtkhlfdcjgooogaaPf64
import Derived.Test.YtkhlfdcjgooogaaTyQ
set_option linter.unusedVariables false
set_option linter.unusedSimpArgs false
namespace Go.Proofs.Ytkhlfdcjgooogaa.P
open Go.RowKit Go.Proofs.YtkhlfdcjgooogaaW.PrintWords
inductive RT where
 | node (x : S101) (kids : List RT) : RT
mutual
def RT.size : RT → Nat
 | .node _ ks => RT.sizes ks + 1
def RT.sizes : List RT → Nat
 | [] => 0
 | t :: ts => RT.size t + RT.sizes ts
end
def RT.roots (o : Nat) : List RT → List Int
 | [] => []
 | t :: ts => ((o : Int) + t.size - 1) :: RT.roots (o + t.size) ts
mutual
def RT.flat (o : Nat) : RT → List S101
 | .node x ks => RT.flats o ks ++ [{ x with f4 := RT.roots o ks }]
def RT.flats (o : Nat) : List RT → List S101
 | [] => []
 | t :: ts => RT.flat o t ++ RT.flats (o + RT.size t) ts
end
mutual
def RT.szs : RT → List Int
 | .node _ ks => RT.szss ks ++ [(RT.sizes ks : Int) + 1]
def RT.szss : List RT → List Int
 | [] => []
 | t :: ts => RT.szs t ++ RT.szss ts
end
mutual
def RT.depth : RT → Nat
 | .node _ ks => RT.depths ks + 1
def RT.depths : List RT → Nat
 | [] => 0
 | t :: ts => max (RT.depth t) (RT.depths ts)
end
theorem RT.size_pos : ∀ t : RT, 0 < t.size
 | .node _ ks => by simp [RT.size]
mutual
theorem RT.flat_len (o : Nat) : ∀ t : RT, (RT.flat o t).length = t.size
 | .node x ks => by simp [RT.flat, RT.size, RT.flats_len o ks]
theorem RT.flats_len (o : Nat) : ∀ ts : List RT, (RT.flats o ts).length = RT.sizes ts
 | [] => rfl
 | t :: ts => by simp [RT.flats, RT.sizes, RT.flat_len o t, RT.flats_len (o + t.size) ts]
end
mutual
theorem RT.szs_len : ∀ t : RT, t.szs.length = t.size
 | .node x ks => by simp [RT.szs, RT.size, RT.szss_len ks]
theorem RT.szss_len : ∀ ts : List RT, (RT.szss ts).length = RT.sizes ts
 | [] => rfl
 | t :: ts => by simp [RT.szss, RT.sizes, RT.szs_len t, RT.szss_len ts]
end
theorem RT.roots_len (o : Nat) : ∀ ts : List RT, (RT.roots o ts).length = ts.length
 | [] => rfl
 | t :: ts => by simp [RT.roots, RT.roots_len (o + t.size) ts]
theorem rd_append_left (a b : List Int) (i : Nat) (h : i < a.length) : rd (a ++ b) (i : Int) = rd a (i : Int) := by
 unfold rd
 rw [List.getD_eq_getElem?_getD, List.getD_eq_getElem?_getD]
 simp [List.getElem?_append_left h]
theorem rd_append_right (a b : List Int) (i : Nat) : rd (a ++ b) ((a.length + i : Nat) : Int) = rd b (i : Int) := by
 unfold rd
 rw [Int.toNat_natCast, Int.toNat_natCast, List.getD_eq_getElem?_getD, List.getD_eq_getElem?_getD, List.getElem?_append_right (by omega), Nat.add_sub_cancel_left]
theorem RT.szs_last (t : RT) : rd t.szs ((t.size - 1 : Nat) : Int) = t.size := by
 cases t with
 | node x ks =>
  have : rd (RT.szss ks ++ [(RT.sizes ks : Int) + 1]) ((((RT.szss ks).length + 0 : Nat)) : Int) = (RT.sizes ks : Int) + 1 := by rw [rd_append_right]; rfl
  simp only [RT.szs, RT.size, Nat.add_sub_cancel]
  rw [RT.szss_len, Nat.add_zero] at this
  rw [this]
  omega
theorem inner_roots : ∀ (ts : List RT) (pre z tail : List Int), z = pre ++ RT.szss ts ++ tail →
  ∀ (s : Int) (ks : List Int), szInner z ((RT.roots pre.length ts).reverse ++ ks) s ((pre.length : Int) + RT.sizes ts - 1) = szInner z ks (s + RT.sizes ts) ((pre.length : Int) - 1)
 | [], pre, z, tail, hz, s, ks => by simp [RT.roots, RT.sizes]
 | t :: ts, pre, z, tail, hz, s, ks => by
  have hp := RT.size_pos t
  have ih := inner_roots ts (pre ++ t.szs) z tail (by rw [hz]; simp [RT.szss]) s ((((pre.length : Int) + t.size - 1)) :: ks)
  rw [List.length_append, RT.szs_len] at ih
  rw [RT.roots, RT.sizes, List.reverse_cons, List.append_assoc, List.singleton_append]
  rw [show ((pre.length : Int) + ((t.size + RT.sizes ts : Nat) : Int) - 1) = (((pre.length + t.size : Nat) : Int) + (RT.sizes ts : Int) - 1) from by omega, ih]
  have hr : rd z ((pre.length : Int) + t.size - 1) = t.size := by
   rw [hz, RT.szss, show ((pre.length : Int) + t.size - 1) = ((pre.length + (t.size - 1) : Nat) : Int) from by omega, List.append_assoc, rd_append_right, List.append_assoc, rd_append_left _ _ _ (by rw [RT.szs_len]; omega), RT.szs_last]
  simp only [szInner]
  rw [if_pos ⟨by omega, by omega⟩, hr]
  congr 1 <;> omega
mutual
theorem outer_flat : ∀ (t : RT) (out : List Int) (rest : List S101), szOuter (RT.flat out.length t ++ rest) out = szOuter rest (out ++ t.szs)
 | .node x ks, out, rest => by
  have h := outer_flats ks out ({ x with f4 := RT.roots out.length ks } :: rest)
  rw [RT.flat, List.append_assoc, List.singleton_append, h, szOuter]
  have hi := inner_roots ks out (out ++ RT.szss ks) [] (by simp) 1 []
  rw [List.append_nil] at hi
  rw [show (((out ++ RT.szss ks).length : Int) - 1) = ((out.length : Int) + RT.sizes ks - 1) from by rw [List.length_append, RT.szss_len]; omega, hi]
  simp only [szInner, RT.szs, List.append_assoc]
  rw [show (1 : Int) + RT.sizes ks = (RT.sizes ks : Int) + 1 from by omega]
theorem outer_flats : ∀ (ts : List RT) (out : List Int) (rest : List S101), szOuter (RT.flats out.length ts ++ rest) out = szOuter rest (out ++ RT.szss ts)
 | [], out, rest => by simp [RT.flats, RT.szss]
 | t :: ts, out, rest => by
  have h2 := outer_flats ts (out ++ t.szs) rest
  rw [List.length_append, RT.szs_len] at h2
  rw [RT.flats, List.append_assoc, outer_flat t out, h2, RT.szss, List.append_assoc]
end
def AtT (ns : List S101) (o : Nat) (t : RT) : Prop := (ns.drop o).take t.size = RT.flat o t
def AtF (ns : List S101) (o : Nat) (ts : List RT) : Prop := (ns.drop o).take (RT.sizes ts) = RT.flats o ts
theorem AtT.le {ns : List S101} {o : Nat} {t : RT} (h : AtT ns o t) : o + t.size ≤ ns.length := by
 have h1 := congrArg List.length h
 have := RT.size_pos t
 rw [List.length_take, List.length_drop, RT.flat_len] at h1
 omega
theorem AtF.le {ns : List S101} {o : Nat} {ts : List RT} (h : AtF ns o ts) (ho : o ≤ ns.length) : o + RT.sizes ts ≤ ns.length := by
 have h1 := congrArg List.length h
 rw [List.length_take, List.length_drop, RT.flats_len] at h1
 omega
theorem AtF.nil (ns : List S101) (o : Nat) : AtF ns o [] := by simp [AtF, RT.sizes, RT.flats]
theorem AtF.cons {ns : List S101} {o : Nat} {t : RT} {ts : List RT} (h : AtT ns o t) (k : AtF ns (o + t.size) ts) : AtF ns o (t :: ts) := by
 unfold AtF at k ⊢
 rw [RT.sizes, List.take_add, RT.flats, h, List.drop_drop, k]
theorem AtT.node {ns : List S101} {o : Nat} {x : S101} {ks : List RT} (h : AtF ns o ks) (hl : o + RT.sizes ks < ns.length) (hx : ns[o + RT.sizes ks] = { x with f4 := RT.roots o ks }) : AtT ns o (.node x ks) := by
 unfold AtT
 rw [RT.size, List.take_add, RT.flat, h, List.drop_drop, List.drop_eq_getElem_cons hl, hx]
 rfl
theorem AtT.kids {ns : List S101} {o : Nat} {x : S101} {ks : List RT} (h : AtT ns o (.node x ks)) : AtF ns o ks ∧ ∃ hl : o + RT.sizes ks < ns.length, ns[o + RT.sizes ks] = { x with f4 := RT.roots o ks } := by
 have hle := h.le
 rw [RT.size] at hle
 unfold AtT at h
 rw [RT.size, List.take_add, RT.flat, List.drop_drop, List.drop_eq_getElem_cons (by omega : o + RT.sizes ks < ns.length)] at h
 have h2 := List.append_inj h (by rw [List.length_take, List.length_drop, RT.flats_len]; omega)
 refine ⟨h2.1, by omega, ?_⟩
 have := h2.2
 rw [List.take_succ_cons, List.take_zero] at this
 exact (List.cons.inj this).1
theorem AtF.head {ns : List S101} {o : Nat} {t : RT} {ts : List RT} (h : AtF ns o (t :: ts)) (ho : o ≤ ns.length) : AtT ns o t ∧ AtF ns (o + t.size) ts := by
 have hle := h.le ho
 rw [RT.sizes] at hle
 unfold AtF at h
 rw [RT.sizes, List.take_add, RT.flats, List.drop_drop] at h
 have h2 := List.append_inj h (by rw [List.length_take, List.length_drop, RT.flat_len]; omega)
 exact ⟨h2.1, h2.2⟩
theorem outer_spec : ∀ (ns : List S101) (acc out : List Int), szOuter ns acc = some out → ∃ suf, out = acc ++ suf ∧ suf.length = ns.length ∧
  ∀ (i : Nat) (h : i < ns.length), szInner (out.take (acc.length + i)) ns[i].f4.reverse 1 (((acc.length + i : Nat) : Int) - 1) = some (rd out ((acc.length + i : Nat) : Int))
 | [], acc, out, h => by
  simp only [szOuter, Option.some.injEq] at h
  exact ⟨[], by simp [h], rfl, fun i h => by simp at h⟩
 | n :: ns, acc, out, h => by
  rw [szOuter] at h
  split at h
  ·cases h
  ·rename_i s hs
   obtain ⟨suf, h1, h2, h3⟩ := outer_spec ns (acc ++ [s]) out h
   refine ⟨s :: suf, by simp [h1], by simp [h2], fun i hi => ?_⟩
   cases i with
   | zero =>
    have e1 : out.take (acc.length + 0) = acc := by rw [h1, Nat.add_zero, List.append_assoc, List.take_left]
    have e2 : rd out ((acc.length + 0 : Nat) : Int) = s := by rw [h1, List.append_assoc, rd_append_right]; rfl
    rw [e1, e2]
    simpa using hs
   | succ i =>
    have := h3 i (by simpa using hi)
    rw [List.length_append, List.length_singleton] at this
    rw [show acc.length + (i + 1) = acc.length + 1 + i from by omega]
    simpa using this
def OkAt (ns : List S101) (out : List Int) (k : Nat) : Prop := ∃ t : RT, (t.size : Int) = rd out k ∧ t.size ≤ k + 1 ∧ AtT ns (k + 1 - t.size) t
theorem build_inner (ns : List S101) (out : List Int) (i : Nat) (hi : i ≤ ns.length) (IH : ∀ k, k < i → OkAt ns out k) : ∀ (ks : List Int) (s r : Int) (ts : List RT) (o : Nat), o ≤ i → AtF ns o ts → s = 1 + RT.sizes ts →
  szInner out ks s ((o : Int) - 1) = some r → ∃ ts' o', o' ≤ o ∧ AtF ns o' ts' ∧ r = 1 + RT.sizes ts' ∧ RT.roots o' ts' = ks.reverse ++ RT.roots o ts ∧ o' + RT.sizes ts' = o + RT.sizes ts
 | [], s, r, ts, o, ho, hF, hs, h => by
  simp only [szInner, Option.some.injEq] at h
  exact ⟨ts, o, Nat.le_refl _, hF, by rw [← h, hs], by simp, rfl⟩
 | k :: ks, s, r, ts, o, ho, hF, hs, h => by
  simp only [szInner] at h
  split at h
  ·rename_i hc
   have hk : k = ((o - 1 : Nat) : Int) := by omega
   obtain ⟨t, ht1, ht2, ht3⟩ := IH (o - 1) (by omega)
   rw [← hk] at ht1
   rw [show o - 1 + 1 = o from by omega] at ht2 ht3
   have hF2 : AtF ns (o - t.size) (t :: ts) := AtF.cons ht3 (by rw [show o - t.size + t.size = o from by omega]; exact hF)
   rw [← ht1, show k - (t.size : Int) = ((o - t.size : Nat) : Int) - 1 from by omega] at h
   obtain ⟨ts', o', h1, h2, h3, h4, h5⟩ := build_inner ns out i hi IH ks _ r (t :: ts) (o - t.size) (by omega) hF2 (by rw [RT.sizes]; omega) h
   refine ⟨ts', o', by omega, h2, h3, ?_, by rw [h5, RT.sizes]; omega⟩
   rw [h4, RT.roots, List.reverse_cons, List.append_assoc, List.singleton_append, show o - t.size + t.size = o from by omega, show ((o - t.size : Nat) : Int) + (t.size : Int) - 1 = k from by omega]
  ·cases h
theorem rd_take (l : List Int) (n i : Nat) (h : i < n) : rd (l.take n) (i : Int) = rd l (i : Int) := by
 unfold rd
 rw [Int.toNat_natCast, List.getD_eq_getElem?_getD, List.getD_eq_getElem?_getD, List.getElem?_take_of_lt h]
theorem okAt_of {ns : List S101} {out : List Int} (h : szOuter ns [] = some out) : ∀ i, i < ns.length → ∃ (x : S101) (ks : List RT) (o : Nat), x = ns.getD i z101 ∧ AtT ns o (.node x ks) ∧ o + RT.sizes ks = i ∧ ((RT.node x ks).size : Int) = rd out i := by
 obtain ⟨suf, h1, h2, h3⟩ := outer_spec ns [] out h
 intro i
 induction i using Nat.strongRecOn with
 | _ i IH =>
  intro hi
  have hs := h3 i hi
  simp only [List.length_nil, Nat.zero_add] at hs
  have IH' : ∀ k, k < i → OkAt ns (out.take i) k := fun k hk => by
   obtain ⟨x, ks, o, _, hat, he, hz⟩ := IH k hk (by omega)
   refine ⟨.node x ks, by rw [rd_take _ _ _ hk]; exact hz, by rw [RT.size]; omega, ?_⟩
   rw [RT.size, show k + 1 - (RT.sizes ks + 1) = o from by omega]
   exact hat
  obtain ⟨ts', o', q1, q2, q3, q4, q5⟩ := build_inner ns (out.take i) i (by omega) IH' _ _ _ [] i (Nat.le_refl _) (AtF.nil _ _) (by simp [RT.sizes]) hs
  simp only [RT.sizes, Nat.add_zero] at q5
  simp only [List.reverse_reverse, RT.roots, List.append_nil] at q4
  refine ⟨ns[i], ts', o', by simp [hi], AtT.node q2 (by omega) ?_, q5, by rw [RT.size, q3]; omega⟩
  simp only [q5, q4]
theorem flat_of {ns : List S101} {out : List Int} (h : szOuter ns [] = some out) (hn : 0 < ns.length) (hz : rd out ((ns.length - 1 : Nat) : Int) = ns.length) : ∃ t : RT, ns = RT.flat 0 t ∧ t.size = ns.length := by
 obtain ⟨x, ks, o, _, hat, he, hsz⟩ := okAt_of h (ns.length - 1) (by omega)
 rw [hz] at hsz
 have hs : (RT.node x ks).size = ns.length := by omega
 have ho : o = 0 := by rw [RT.size] at hs; omega
 subst ho
 refine ⟨.node x ks, ?_, hs⟩
 unfold AtT at hat
 rw [List.drop_zero, hs, List.take_length] at hat
 exact hat
open Go.RowKit Go.Proofs.YtkhlfdcjgooogaaW.PrintWords Go.Proofs.YtkhlfdcjgooogaaW.PrintLast Go.Proofs.YtkhlfdcjgooogaaW.PrintMore
theorem wrapS (i : Nat) (h : i < 9223372036854775807) : wrap64 ((i : Int) + 1) = ((i + 1 : Nat) : Int) := by unfold wrap64; omega
theorem rdT24 (l : List S101) (i : Nat) (h : i < l.length) : rd_T101 l (i : Int) = l[i] := by simp [rd_T101, h]
theorem rdN (l : List Int) (i : Nat) (h : i < l.length) : rd l (i : Int) = l[i] := by simp [rd, h]
theorem outer_whole (t : RT) : szOuter (RT.flat 0 t) [] = some t.szs := by
 have h := outer_flat t [] []
 simpa [szOuter] using h
theorem sizes_flat (t : RT) (h : t.size ≤ 4000) : tree_sizes.f (RT.flat 0 t) = some (t.szs, true) := by
 unfold tree_sizes.f
 rw [if_pos (by rw [RT.flat_len]; omega), outer_whole]
theorem sound_flat (t : RT) (h : t.size ≤ 4000) : tree_Sound.f (RT.flat 0 t) ((t.size : Int) - 1) = some true := by
 have hp := RT.size_pos t
 have hl := RT.flat_len 0 t
 unfold tree_Sound.f
 rw [if_neg (by omega), if_neg (by omega), if_pos (by rw [hl]; unfold wrap64; omega), sizes_flat t h]
 simp only [Option.bind_some]
 rw [if_pos trivial, if_pos (by omega), if_pos (by rw [RT.szs_len]; omega)]
 have := RT.szs_last t
 rw [show ((t.size : Int) - 1) = ((t.size - 1 : Nat) : Int) from by omega, this, RT.szs_len]
 simp
theorem sound_cases (l : List S101) (r : Int) : tree_Sound.f l r = some false ∨ ∃ t : RT, l = RT.flat 0 t ∧ t.size ≤ 4000 ∧ r = (t.size : Int) - 1 := by
 unfold tree_Sound.f
 by_cases h0 : (l.length : Int) = 0
 ·rw [if_pos h0]; exact .inl rfl
 rw [if_neg h0]
 by_cases h1 : (l.length : Int) > 4000
 ·rw [if_pos h1]; exact .inl rfl
 rw [if_neg h1]
 by_cases h2 : r = wrap64 ((l.length : Int) - 1)
 ·rw [if_pos h2]
  have hr : r = ((l.length - 1 : Nat) : Int) := by rw [h2]; unfold wrap64; omega
  cases ho : szOuter l [] with
  | none =>
   have hs : tree_sizes.f l = some ([], false) := by unfold tree_sizes.f; rw [if_pos (by omega), ho]
   rw [hs]; exact .inl rfl
  | some out =>
   have hs : tree_sizes.f l = some (out, true) := by unfold tree_sizes.f; rw [if_pos (by omega), ho]
   rw [hs]
   simp only [Option.bind_some]
   obtain ⟨suf, e1, e2, _⟩ := outer_spec l [] out ho
   have hol : out.length = l.length := by rw [e1]; simpa using e2
   rw [if_pos trivial, if_pos (by omega), if_pos (by omega)]
   by_cases hz : rd out r = (out.length : Int)
   ·right
    obtain ⟨t, ht, htl⟩ := flat_of ho (by omega) (by rw [← hr, hz, hol])
    exact ⟨t, ht, by omega, by rw [hr, htl]; omega⟩
   ·left
    simp [hz]
 ·rw [if_neg h2]; exact .inl rfl
theorem mx_max (a b : Nat) : mx (a : Int) (b : Int) = ((max a b : Nat) : Int) := by
 unfold mx
 split <;> omega
theorem mem_flat_at {ns : List S101} {o : Nat} {x : S101} {ks : List RT} (h : AtT ns o (.node x ks)) : rd_T101 ns ((o : Int) + (RT.node x ks).size - 1) = { x with f4 := RT.roots o ks } := by
 obtain ⟨_, hl, hx⟩ := h.kids
 rw [RT.size, show ((o : Int) + ((RT.sizes ks + 1 : Nat) : Int) - 1) = ((o + RT.sizes ks : Nat) : Int) from by omega, rdT24 ns _ hl, hx]
mutual
theorem deep_at (ns : List S101) (hn : ns.length < 1000000) : ∀ (t : RT) (o k : Nat), AtT ns o t → t.depth ≤ k → tree_Depth.deep k ns ((o : Int) + t.size - 1) = some (t.depth : Int)
 | .node x ks, o, k, h, hk => by
  rw [RT.depth] at hk
  obtain ⟨k, rfl⟩ : ∃ m, k = m + 1 := ⟨k - 1, by omega⟩
  have hle := h.le
  have hd := deep_kids ns hn ks o k h.kids.1 (by have := h.le; omega) (by omega) 0
  rw [Nat.zero_max, show ((0 : Nat) : Int) = 0 from rfl] at hd
  have hdl : RT.depths ks < 1000000 := by
   have := depths_le_sizes ks
   rw [RT.size] at hle
   omega
  rw [tree_Depth.deep, if_pos (by rw [RT.size]; omega), if_pos (by rw [RT.size] at hle ⊢; omega), mem_flat_at h]
  dsimp only
  rw [hd]
  simp only [Option.bind_some, RT.depth]
  congr 1
  unfold wrap64
  omega
theorem deep_kids (ns : List S101) (hn : ns.length < 1000000) : ∀ (ts : List RT) (o k : Nat), AtF ns o ts → o ≤ ns.length → RT.depths ts ≤ k → ∀ d : Nat, tree_Depth.kids (tree_Depth.deep k ns) (RT.roots o ts) (d : Int) = some ((max d (RT.depths ts) : Nat) : Int)
 | [], o, k, h, ho, hk, d => by simp [RT.roots, tree_Depth.kids, RT.depths]
 | t :: ts, o, k, h, ho, hk, d => by
  obtain ⟨h1, h2⟩ := h.head ho
  rw [RT.depths] at hk
  have e1 := deep_at ns hn t o k h1 (by omega)
  rw [RT.roots, tree_Depth.kids, e1]
  simp only [Option.bind_some]
  rw [mx_max, deep_kids ns hn ts (o + t.size) k h2 h1.le (by omega) (max d t.depth), RT.depths, Nat.max_assoc]
theorem depth_le_size : ∀ t : RT, t.depth ≤ t.size
 | .node x ks => by have := depths_le_sizes ks; rw [RT.depth, RT.size]; omega
theorem depths_le_sizes : ∀ ts : List RT, RT.depths ts ≤ RT.sizes ts
 | [] => by simp [RT.depths, RT.sizes]
 | t :: ts => by have h1 := depth_le_size t; have h2 := depths_le_sizes ts; rw [RT.depths, RT.sizes]; omega
end
theorem depth_ev (t : RT) (h : t.size ≤ 4000) : Ev (fun k => tree_Depth.f k (RT.flat 0 t) ((t.size : Int) - 1)) (t.depth : Int) := by
 have hp := RT.size_pos t
 refine ⟨t.depth, fun k hk => ?_⟩
 unfold tree_Depth.f
 rw [sound_flat t h]
 simp only [Option.bind_some, if_true]
 have := deep_at (RT.flat 0 t) (by rw [RT.flat_len]; omega) t 0 k (by unfold AtT; rw [List.drop_zero, ← RT.flat_len 0 t, List.take_length]) hk
 rw [show ((0 : Nat) : Int) = 0 from rfl, Int.zero_add] at this
 exact this
structure SubAt (ns : List S101) (o p : Nat) (szs : List Int) (t : RT) (o' : Nat) : Prop where
 at_ : AtT ns o' t
 ge : o ≤ o'
 root : o' + t.size = o + p + 1
 size : (t.size : Int) = rd szs (p : Int)
mutual
theorem subAt (ns : List S101) : ∀ (T : RT) (o p : Nat), AtT ns o T → p < T.size → ∃ t o', SubAt ns o p T.szs t o' ∧ t.depth ≤ T.depth ∧ (p + 1 < T.size → t.depth < T.depth)
 | .node x ks, o, p, h, hp => by
  rw [RT.size] at hp
  by_cases hl : p < RT.sizes ks
  ·obtain ⟨t, o', h1, h2⟩ := subAts ns ks o p h.kids.1 (by have := h.le; omega) hl
   refine ⟨t, o', ⟨h1.at_, h1.ge, h1.root, ?_⟩, by rw [RT.depth]; omega, fun _ => by rw [RT.depth]; omega⟩
   rw [RT.szs, rd_append_left _ _ _ (by rw [RT.szss_len]; exact hl)]
   exact h1.size
  ·have hpe : p = RT.sizes ks := by omega
   refine ⟨.node x ks, o, ⟨h, Nat.le_refl _, by rw [RT.size, hpe]; omega, ?_⟩, Nat.le_refl _, fun hc => by rw [RT.size] at hc; omega⟩
   have := RT.szs_last (.node x ks)
   rw [RT.size, Nat.add_sub_cancel] at this
   rw [hpe, this, RT.size]
theorem subAts (ns : List S101) : ∀ (ts : List RT) (o p : Nat), AtF ns o ts → o ≤ ns.length → p < RT.sizes ts → ∃ t o', SubAt ns o p (RT.szss ts) t o' ∧ t.depth ≤ RT.depths ts
 | [], o, p, h, ho, hp => by simp [RT.sizes] at hp
 | t :: ts, o, p, h, ho, hp => by
  obtain ⟨h1, h2⟩ := h.head ho
  rw [RT.sizes] at hp
  by_cases hl : p < t.size
  ·obtain ⟨t', o', q1, q2, _⟩ := subAt ns t o p h1 hl
   refine ⟨t', o', ⟨q1.at_, q1.ge, q1.root, ?_⟩, by rw [RT.depths]; omega⟩
   rw [RT.szss, rd_append_left _ _ _ (by rw [RT.szs_len]; exact hl)]
   exact q1.size
  ·obtain ⟨t', o', q1, q2⟩ := subAts ns ts (o + t.size) (p - t.size) h2 h1.le (by omega)
   refine ⟨t', o', ⟨q1.at_, by have := q1.ge; omega, by have := q1.root; omega, ?_⟩, by rw [RT.depths]; omega⟩
   rw [RT.szss, show (p : Int) = ((t.szs.length + (p - t.size) : Nat) : Int) from by rw [RT.szs_len]; omega, rd_append_right]
   exact q1.size
end
theorem kids_le_sizes : ∀ ks : List RT, ks.length ≤ RT.sizes ks
 | [] => by simp [RT.sizes]
 | t :: ts => by have h1 := RT.size_pos t; have h2 := kids_le_sizes ts; rw [RT.sizes, List.length_cons]; omega
theorem flat_kids_le (T : RT) (hT : T.size ≤ 4000) : ∀ x ∈ RT.flat 0 T, x.f4.length ≤ 4000 := by
 intro x hx
 obtain ⟨i, hi, rfl⟩ := List.mem_iff_getElem.1 hx
 have hi' : i < T.size := by rwa [RT.flat_len] at hi
 have hat : AtT (RT.flat 0 T) 0 T := by unfold AtT; rw [List.drop_zero, ← RT.flat_len 0 T, List.take_length]
 obtain ⟨t, o', hs, _⟩ := subAt (RT.flat 0 T) T 0 i hat hi'
 have hroot := hs.root
 have hle := hs.at_.le
 rw [RT.flat_len] at hle
 cases t with
 | node y ks =>
  obtain ⟨_, hl, hx⟩ := hs.at_.kids
  rw [RT.size] at hroot
  have he : o' + RT.sizes ks = i := by omega
  simp only [he] at hx
  rw [hx]
  simp only [RT.roots_len]
  have := kids_le_sizes ks
  rw [RT.size] at hle
  omega
def setK (i : Int) : List Int → List Int → List Int
 | acc, [] => acc
 | acc, k :: ks => setK i (acc.set k.toNat i) ks
def parF : List S101 → Nat → List Int → List Int
 | [], _, acc => acc
 | n :: ns, i, acc => parF ns (i + 1) (setK (i : Int) acc n.f4)
theorem setK_len (i : Int) : ∀ (ks acc : List Int), (setK i acc ks).length = acc.length
 | [], acc => rfl
 | k :: ks, acc => by rw [setK, setK_len i ks]; simp
theorem par_l1 (ns : List S101) (i : Nat) (hi : i < 1000000) (ks : List Int) (hk : ks.length < 1000000) (res : List Int) : ∀ (d j : Nat) (acc : List Int), j + d = ks.length → (∀ k ∈ ks, 0 ≤ k ∧ k < (acc.length : Int)) →
  Ev (fun k => tree_Parents.l0 k (setK (i : Int) acc (ks.drop j)) ns (ns.length : Int) ((i + 1 : Nat) : Int)) res →
  Ev (fun k => tree_Parents.l1 k acc (i : Int) ns (ns.length : Int) (i : Int) ks (ks.length : Int) (j : Int)) res
 | 0, j, acc, hd, hb, h => by
  rw [List.drop_of_length_le (by omega), setK] at h
  exact Ev.step (fun k => by simp only [tree_Parents.l1]; rw [if_neg (by omega), wrapS i (by omega)]) h
 | d + 1, j, acc, hd, hb, h => by
  have hj : j < ks.length := by omega
  rw [List.drop_eq_getElem_cons hj, setK] at h
  have hkj := hb ks[j] (List.getElem_mem hj)
  refine Ev.step (fun k => by simp only [tree_Parents.l1]; rw [if_pos (by omega), if_pos (by omega), if_pos (by omega), rdN ks j hj, if_pos hkj.1, if_pos hkj.2, wrapS j (by omega)]) ?_
  exact par_l1 ns i hi ks hk res d (j + 1) _ (by omega) (fun k hk => by rw [List.length_set]; exact hb k hk) h
theorem par_l0 (ns : List S101) (hn : ns.length < 1000000) (N : Nat) (hk : ∀ x ∈ ns, x.f4.length < 1000000 ∧ ∀ k ∈ x.f4, 0 ≤ k ∧ k < (N : Int)) : ∀ (d i : Nat) (acc : List Int), i + d = ns.length → acc.length = N →
  Ev (fun k => tree_Parents.l0 k acc ns (ns.length : Int) (i : Int)) (parF (ns.drop i) i acc)
 | 0, i, acc, hd, ha => by
  rw [List.drop_of_length_le (by omega), parF]
  exact Ev.step (fun k => by simp only [tree_Parents.l0]; rw [if_neg (by omega)]) (Ev.now _)
 | d + 1, i, acc, hd, ha => by
  have hi : i < ns.length := by omega
  have hx := hk ns[i] (List.getElem_mem hi)
  rw [List.drop_eq_getElem_cons hi, parF]
  refine Ev.step (fun k => by simp only [tree_Parents.l0]; rw [if_pos (by omega), if_pos (by omega), if_pos (by omega), rdT24 ns i hi]) ?_
  refine par_l1 ns i (by omega) ns[i].f4 hx.1 _ ns[i].f4.length 0 acc (by omega) (fun k h => by rw [ha]; exact hx.2 k h) ?_
  rw [List.drop_zero]
  exact par_l0 ns hn N hk d (i + 1) _ (by omega) (by rw [setK_len]; exact ha)
theorem rd_set (l : List Int) (k j : Nat) (v : Int) (hj : j < l.length) : rd (l.set k v) (j : Int) = if k = j then v else rd l (j : Int) := by
 rw [rdN _ j (by simpa using hj), rdN _ j hj, List.getElem_set]
theorem setK_get (i : Int) (j : Nat) : ∀ (ks acc : List Int), j < acc.length → (∀ k ∈ ks, 0 ≤ k) → rd (setK i acc ks) (j : Int) = if (j : Int) ∈ ks then i else rd acc (j : Int)
 | [], acc, hj, h => by simp [setK]
 | k :: ks, acc, hj, h => by
  have h0 := h k (by simp)
  rw [setK, setK_get i j ks _ (by simpa using hj) (fun k' hk => h k' (by simp [hk])), rd_set _ _ _ _ hj]
  by_cases h1 : (j : Int) ∈ ks
  ·simp [h1]
  ·by_cases h2 : k.toNat = j
   ·have : k = (j : Int) := by omega
    simp [h1, this]
   ·have : (j : Int) ≠ k := by omega
    simp [h1, h2, this]
def KidOf (ns : List S101) (j i : Nat) : Prop := ∃ h : i < ns.length, (j : Int) ∈ ns[i].f4
theorem parF_get (ns : List S101) (init : List Int) (hk : ∀ x ∈ ns, ∀ k ∈ x.f4, 0 ≤ k) : ∀ (d i : Nat) (acc : List Int), i + d = ns.length → acc.length = init.length →
  (∀ j, j < init.length → (∃ i', i' < i ∧ KidOf ns j i' ∧ rd acc (j : Int) = (i' : Int)) ∨ ((∀ i', i' < i → ¬ KidOf ns j i') ∧ rd acc (j : Int) = rd init (j : Int))) →
  (parF (ns.drop i) i acc).length = init.length ∧ ∀ j, j < init.length → (∃ i', i' < ns.length ∧ KidOf ns j i' ∧ rd (parF (ns.drop i) i acc) (j : Int) = (i' : Int)) ∨ ((∀ i', i' < ns.length → ¬ KidOf ns j i') ∧ rd (parF (ns.drop i) i acc) (j : Int) = rd init (j : Int))
 | 0, i, acc, hd, ha, h => by
  have hi : i = ns.length := by omega
  rw [List.drop_of_length_le (by omega), parF]
  subst hi
  exact ⟨ha, h⟩
 | d + 1, i, acc, hd, ha, h => by
  have hi : i < ns.length := by omega
  rw [List.drop_eq_getElem_cons hi, parF]
  refine parF_get ns init hk d (i + 1) _ (by omega) (by rw [setK_len]; exact ha) (fun j hj => ?_)
  rw [setK_get _ _ _ _ (by omega) (hk _ (List.getElem_mem hi))]
  by_cases hm : (j : Int) ∈ ns[i].f4
  ·left
   exact ⟨i, by omega, ⟨hi, hm⟩, by rw [if_pos hm]⟩
  ·rw [if_neg hm]
   rcases h j hj with ⟨i', h1, h2, h3⟩ | ⟨h1, h2⟩
   ·exact .inl ⟨i', by omega, h2, h3⟩
   ·right
    refine ⟨fun i' hi' hK => ?_, h2⟩
    rcases Nat.lt_succ_iff_lt_or_eq.1 hi' with h4 | rfl
    ·exact h1 i' h4 hK
    ·obtain ⟨_, h5⟩ := hK
     exact hm h5
theorem roots_mem : ∀ (ts : List RT) (o : Nat) (k : Int), k ∈ RT.roots o ts → (o : Int) ≤ k ∧ k < (o : Int) + RT.sizes ts
 | [], o, k, h => by simp [RT.roots] at h
 | t :: ts, o, k, h => by
  have hp := RT.size_pos t
  rw [RT.roots] at h
  rw [RT.sizes]
  rcases List.mem_cons.1 h with rfl | h
  ·omega
  ·have := roots_mem ts (o + t.size) k h; omega
mutual
theorem kid_of (ns : List S101) : ∀ (t : RT) (o j : Nat), AtT ns o t → o ≤ j → j + 1 < o + t.size → ∃ i, KidOf ns j i
 | .node x ks, o, j, h, h0, h1 => by
  rw [RT.size] at h1
  obtain ⟨hF, hl, hx⟩ := h.kids
  rcases kids_of ns ks o j hF (by omega) h0 (by omega) with h | h
  ·exact ⟨o + RT.sizes ks, hl, by rw [hx]; exact h⟩
  ·exact h
theorem kids_of (ns : List S101) : ∀ (ts : List RT) (o j : Nat), AtF ns o ts → o ≤ ns.length → o ≤ j → j < o + RT.sizes ts → (j : Int) ∈ RT.roots o ts ∨ ∃ i, KidOf ns j i
 | [], o, j, h, ho, h0, h1 => by rw [RT.sizes] at h1; omega
 | t :: ts, o, j, h, ho, h0, h1 => by
  obtain ⟨ht, hts⟩ := h.head ho
  have hp := RT.size_pos t
  rw [RT.sizes] at h1
  rw [RT.roots]
  by_cases ha : j + 1 < o + t.size
  ·exact .inr (kid_of ns t o j ht h0 ha)
  ·by_cases hb : j + 1 = o + t.size
   ·left
    rw [show (j : Int) = (o : Int) + t.size - 1 from by omega]
    simp
   ·rcases kids_of ns ts (o + t.size) j hts ht.le (by omega) (by omega) with h | h
    ·exact .inl (List.mem_cons_of_mem _ h)
    ·exact .inr h
end
theorem node_at (T : RT) (i : Nat) (hi : i < T.size) : ∃ (x : S101) (ks : List RT) (o : Nat), rd_T101 (RT.flat 0 T) (i : Int) = { x with f4 := RT.roots o ks } ∧ o + RT.sizes ks = i := by
 have hat : AtT (RT.flat 0 T) 0 T := by unfold AtT; rw [List.drop_zero, ← RT.flat_len 0 T, List.take_length]
 obtain ⟨t, o', hs, _⟩ := subAt (RT.flat 0 T) T 0 i hat hi
 have hroot := hs.root
 have htp := RT.size_pos t
 cases t with
 | node y ks =>
  have := mem_flat_at hs.at_
  rw [RT.size] at hroot
  refine ⟨y, ks, o', ?_, by omega⟩
  rw [← this, RT.size]
  congr 1
  omega
theorem flat_kids_in (T : RT) (i : Nat) (hi : i < (RT.flat 0 T).length) : ∀ k ∈ (RT.flat 0 T)[i].f4, 0 ≤ k ∧ k < (i : Int) := fun k hk => by
 obtain ⟨x, ks, o, e1, e2⟩ := node_at T i (by rw [RT.flat_len] at hi; exact hi)
 rw [rdT24 _ i hi] at e1
 rw [e1] at hk
 have := roots_mem ks o k hk
 omega
theorem fit_flat (T : RT) (hT : T.size ≤ 4000) (hk : ∀ x ∈ RT.flat 0 T, x.f3.size ≤ 140737488351232) : Fit (RT.flat 0 T) := by
 have hfl := RT.flat_len 0 T
 refine ⟨by omega, fun x hx => ?_⟩
 refine ⟨fun k hkm => ?_, flat_kids_le T hT x hx, hk x hx⟩
 obtain ⟨i, hi, rfl⟩ := List.mem_iff_getElem.1 hx
 have := flat_kids_in T i hi k hkm
 omega
def parsOf (ns : List S101) : List Int := parF ns 0 ((List.replicate ns.length (0 : Int)).set (ns.length - 1) (-1))
theorem pars_ev (T : RT) (hT : T.size ≤ 4000) : Ev (fun k => tree_Parents.f k (RT.flat 0 T) ((T.size : Int) - 1)) (parsOf (RT.flat 0 T)) := by
 have hfl := RT.flat_len 0 T
 have hp := RT.size_pos T
 have hev : Ev (fun k => tree_Parents.l0 k ((List.replicate (RT.flat 0 T).length (0 : Int)).set ((RT.flat 0 T).length - 1) (-1)) (RT.flat 0 T) ((RT.flat 0 T).length : Int) 0) (parsOf (RT.flat 0 T)) := by
  have := par_l0 (RT.flat 0 T) (by omega) (RT.flat 0 T).length (fun x hx => ⟨by have := flat_kids_le T hT x hx; omega, fun k hk => by
   obtain ⟨i, hi, rfl⟩ := List.mem_iff_getElem.1 hx
   have := flat_kids_in T i hi k hk
   omega⟩) (RT.flat 0 T).length 0 ((List.replicate (RT.flat 0 T).length (0 : Int)).set ((RT.flat 0 T).length - 1) (-1)) (by omega) (by simp)
  simpa [parsOf] using this
 refine hev.congr (fun k => ?_)
 unfold tree_Parents.f
 rw [sound_flat T hT]
 simp only [Option.bind_some, if_true]
 rw [if_pos (by omega), if_pos (by simp; omega), if_pos (by omega), if_pos (by simp; omega)]
 congr 2
 simp
 omega
set_option linter.unusedSectionVars false
theorem runF_all (p : Int → Bool) : ∀ (L : List Int) (m j : Nat), j < runF p m L → ∃ h : j < L.length, p L[j] = true
 | [], m, j, h => by cases m <;> exact absurd h (Nat.not_lt_zero _)
 | c :: L, 0, j, h => absurd h (Nat.not_lt_zero _)
 | c :: L, m + 1, j, h => by
  rw [runF] at h
  split at h
  ·rename_i hc
   cases j with
   | zero => exact ⟨by simp, hc⟩
   | succ j =>
    obtain ⟨h1, h2⟩ := runF_all p L m j (by omega)
    exact ⟨by simpa using h1, by simpa using h2⟩
  ·exact absurd h (Nat.not_lt_zero _)
theorem rn_all (p : Int → Bool) (m : Nat) (L : List Int) (i j : Nat) (h1 : i ≤ j) (h2 : j < i + rn p m L i) : ∃ h : j < L.length, p L[j] = true := by
 obtain ⟨h3, h4⟩ := runF_all p (L.drop i) m (j - i) (by unfold rn at h2; omega)
 rw [List.length_drop] at h3
 refine ⟨by omega, ?_⟩
 rw [List.getElem_drop] at h4
 simpa [show i + (j - i) = j from by omega] using h4
theorem fin_eq {L : List Int} {i : Nat} (h : fin L i = true) : i = L.length := by
 unfold fin at h
 have : (i : Int) = (L.length : Int) := by simpa using h
 omega
def AllOk (ns : List S101) : Prop := ns.all (okN ns) = true
theorem AllOk.at_ {ns : List S101} (h : AllOk ns) {i : Int} (h0 : 0 ≤ i) (h1 : i < ns.length) : 1 ≤ kdOf ns i ∧ kdOf ns i ≤ 27 ∧ textB (kdOf ns i) (rd_T101 ns i).f3 = true ∧ numB (kdOf ns i) (nOf ns i) = true ∧ kidsB (kdOf ns i) (kindsOf ns (rd_T101 ns i).f4) = true := by
 have := List.all_eq_true.1 h _ (rd24_mem ns i h0 h1)
 unfold okN nodeOk at this
 simp only [Bool.and_eq_true, decide_eq_true_eq] at this
 exact ⟨this.1, this.2.1, this.2.2.1, this.2.2.2.1, this.2.2.2.2⟩
theorem kinds_get (ns : List S101) (kl : List Int) (j : Nat) (h : j < kl.length) : (kindsOf ns kl)[j]'(by rw [kinds_len]; exact h) = kdOf ns kl[j] := by simp [kindsOf, kdOf]
section
variable {ns : List S101} (hA : AllOk ns) {i : Int} (h0 : 0 ≤ i) (h1 : i < ns.length)
include hA h0 h1
theorem kids_of1 (hk : kdOf ns i = 1) : ∀ k ∈ (rd_T101 ns i).f4, kdOf ns k = 2 ∨ kdOf ns k = 3 := fun k hm => by
 have h := (hA.at_ h0 h1).2.2.2.2
 rw [hk] at h
 have h : kidsB_1 (kindsOf ns (rd_T101 ns i).f4) = true := h
 unfold kidsB_1 at h
 have hf := fin_eq h
 rw [kinds_len] at hf
 obtain ⟨j, hj, rfl⟩ := List.mem_iff_getElem.1 hm
 rw [← kinds_get ns _ j hj]
 by_cases hj2 : j < 0 + rn (fun x => x == 2) 4000 (kindsOf ns (rd_T101 ns i).f4) 0
 ·obtain ⟨_, h3⟩ := rn_all _ _ _ 0 j (Nat.zero_le _) hj2
  exact .inl (by simpa using h3)
 ·obtain ⟨_, h3⟩ := rn_all (fun x => x == 3) 4000 (kindsOf ns (rd_T101 ns i).f4) _ j (Nat.not_lt.1 hj2) (by omega)
  exact .inr (by simpa using h3)
theorem kids_leaf (hk : kdOf ns i = 2 ∨ kdOf ns i = 4 ∨ kdOf ns i = 5 ∨ kdOf ns i = 18 ∨ kdOf ns i = 19 ∨ kdOf ns i = 20 ∨ kdOf ns i = 21 ∨ kdOf ns i = 22 ∨ kdOf ns i = 24 ∨ kdOf ns i = 25) : (rd_T101 ns i).f4 = [] := by
 have h := (hA.at_ h0 h1).2.2.2.2
 have hf : fin (kindsOf ns (rd_T101 ns i).f4) 0 = true := by
  rcases hk with e | e | e | e | e | e | e | e | e | e <;> rw [e] at h <;> exact h
 have := fin_eq hf
 rw [kinds_len] at this
 exact List.eq_nil_of_length_eq_zero this.symm
theorem kids_ex (m : Nat) (h : (((rn exB m (kindsOf ns (rd_T101 ns i).f4) 0 : Nat) : Int) == (m : Int)) = true) (hf : fin (kindsOf ns (rd_T101 ns i).f4) (0 + rn exB m (kindsOf ns (rd_T101 ns i).f4) 0) = true) :
  (rd_T101 ns i).f4.length = m ∧ ∀ k ∈ (rd_T101 ns i).f4, exB (kdOf ns k) = true := by
 have hm : rn exB m (kindsOf ns (rd_T101 ns i).f4) 0 = m := by
  have : ((rn exB m (kindsOf ns (rd_T101 ns i).f4) 0 : Nat) : Int) = (m : Int) := by simpa using h
  omega
 have hl := fin_eq hf
 rw [kinds_len, hm] at hl
 refine ⟨by omega, fun k hk => ?_⟩
 obtain ⟨j, hj, rfl⟩ := List.mem_iff_getElem.1 hk
 rw [← kinds_get ns _ j hj]
 exact (rn_all exB m _ 0 j (Nat.zero_le _) (by omega)).2
theorem kids_one (hk : kdOf ns i = 7 ∨ kdOf ns i = 15 ∨ kdOf ns i = 17 ∨ kdOf ns i = 23 ∨ kdOf ns i = 26) : (rd_T101 ns i).f4.length = 1 ∧ ∀ k ∈ (rd_T101 ns i).f4, exB (kdOf ns k) = true := by
 have h := (hA.at_ h0 h1).2.2.2.2
 have h2 : ((((rn exB 1 (kindsOf ns (rd_T101 ns i).f4) (0) : Nat) : Int) == 1) && fin (kindsOf ns (rd_T101 ns i).f4) (0 + rn exB 1 (kindsOf ns (rd_T101 ns i).f4) (0))) = true := by
  rcases hk with e | e | e | e | e <;> rw [e] at h <;> exact h
 rw [Bool.and_eq_true] at h2
 exact kids_ex hA h0 h1 1 h2.1 h2.2
theorem kids_two (hk : kdOf ns i = 8 ∨ kdOf ns i = 27) : (rd_T101 ns i).f4.length = 2 ∧ ∀ k ∈ (rd_T101 ns i).f4, exB (kdOf ns k) = true := by
 have h := (hA.at_ h0 h1).2.2.2.2
 have h2 : ((((rn exB 2 (kindsOf ns (rd_T101 ns i).f4) (0) : Nat) : Int) == 2) && fin (kindsOf ns (rd_T101 ns i).f4) (0 + rn exB 2 (kindsOf ns (rd_T101 ns i).f4) (0))) = true := by
  rcases hk with e | e <;> rw [e] at h <;> exact h
 rw [Bool.and_eq_true] at h2
 exact kids_ex hA h0 h1 2 h2.1 h2.2
theorem kids_some (hk : kdOf ns i = 7 ∨ kdOf ns i = 10 ∨ kdOf ns i = 11 ∨ kdOf ns i = 12 ∨ kdOf ns i = 13) : 0 < (rd_T101 ns i).f4.length := by
 have h := (hA.at_ h0 h1).2.2.2.2
 rw [← kinds_len ns]
 have aux : ∀ (p : Int → Bool) (m i : Nat) (L : List Int), rn p m L i ≤ L.length := fun p m i L => Nat.le_trans (runF_le _ _ _) (by simp)
 rcases hk with e | e | e | e | e <;> rw [e] at h
 ·have h2 : kidsB_7 (kindsOf ns (rd_T101 ns i).f4) = true := h
  unfold kidsB_7 at h2
  simp only [Bool.and_eq_true] at h2
  have := aux exB 1 0 (kindsOf ns (rd_T101 ns i).f4)
  have h3 : ((rn exB 1 (kindsOf ns (rd_T101 ns i).f4) 0 : Nat) : Int) = 1 := by simpa using h2.1
  omega
 ·have h2 : kidsB_10 (kindsOf ns (rd_T101 ns i).f4) = true := h
  unfold kidsB_10 at h2
  simp only [Bool.and_eq_true] at h2
  have := aux (fun x => x == 18) 1 0 (kindsOf ns (rd_T101 ns i).f4)
  have h3 : ((rn (fun x => x == 18) 1 (kindsOf ns (rd_T101 ns i).f4) 0 : Nat) : Int) = 1 := by simpa using h2.1.1
  omega
 ·have h2 : kidsB_11 (kindsOf ns (rd_T101 ns i).f4) = true := h
  unfold kidsB_11 at h2
  simp only [Bool.and_eq_true] at h2
  have := aux exB 1 0 (kindsOf ns (rd_T101 ns i).f4)
  have h3 : ((rn exB 1 (kindsOf ns (rd_T101 ns i).f4) 0 : Nat) : Int) = 1 := by simpa using h2.1.1
  omega
 ·have h2 : kidsB_12 (kindsOf ns (rd_T101 ns i).f4) = true := h
  unfold kidsB_12 at h2
  simp only [Bool.and_eq_true] at h2
  have := aux exB 1 0 (kindsOf ns (rd_T101 ns i).f4)
  have h3 : ((rn exB 1 (kindsOf ns (rd_T101 ns i).f4) 0 : Nat) : Int) = 1 := by simpa using h2.1.1
  omega
 ·have h2 : kidsB_13 (kindsOf ns (rd_T101 ns i).f4) = true := h
  unfold kidsB_13 at h2
  simp only [Bool.and_eq_true] at h2
  have := aux (fun x => x == 19) 1 0 (kindsOf ns (rd_T101 ns i).f4)
  have h3 : ((rn (fun x => x == 19) 1 (kindsOf ns (rd_T101 ns i).f4) 0 : Nat) : Int) = 1 := by simpa using h2.1
  omega
end
structure ParOk (ns : List S101) (ps : List Int) : Prop where
 len : ps.length = ns.length
 up : ∀ j : Nat, j + 1 < ns.length → ∃ i : Nat, KidOf ns j i ∧ rd ps (j : Int) = (i : Int)
 dn : ∀ i (h : i < ns.length), ∀ k ∈ ns[i].f4, 0 ≤ k ∧ k < (i : Int)
theorem pars_ok (T : RT) (hT : T.size ≤ 4000) : ParOk (RT.flat 0 T) (parsOf (RT.flat 0 T)) := by
 have hfl := RT.flat_len 0 T
 have hp := RT.size_pos T
 have dn := flat_kids_in T
 have hg := parF_get (RT.flat 0 T) ((List.replicate (RT.flat 0 T).length (0 : Int)).set ((RT.flat 0 T).length - 1) (-1)) (fun x hx k hk => by
  obtain ⟨i, hi, rfl⟩ := List.mem_iff_getElem.1 hx
  exact (dn i hi k hk).1) (RT.flat 0 T).length 0 _ (by omega) rfl (fun j hj => .inr ⟨fun i' h => absurd h (Nat.not_lt_zero _), rfl⟩)
 rw [List.drop_zero] at hg
 refine ⟨by unfold parsOf; rw [hg.1]; simp, fun j hj => ?_, dn⟩
 rcases hg.2 j (by simp; omega) with ⟨i, _, h2, h3⟩ | ⟨h1, _⟩
 ·exact ⟨i, h2, h3⟩
 ·have hat : AtT (RT.flat 0 T) 0 T := by unfold AtT; rw [List.drop_zero, ← RT.flat_len 0 T, List.take_length]
  obtain ⟨i, hi⟩ := kid_of (RT.flat 0 T) T 0 j hat (Nat.zero_le _) (by omega)
  exact absurd hi (h1 i hi.1)
theorem ParOk.lt {ns : List S101} {ps : List Int} (h : ParOk ns ps) (i : Int) (h0 : 0 ≤ i) (h1 : i < (ns.length : Int) - 1) : i < rd ps i ∧ rd ps i < ns.length := by
 obtain ⟨j, rfl⟩ := Int.eq_ofNat_of_zero_le h0
 obtain ⟨i, ⟨hi, hk⟩, e⟩ := h.up j (by omega)
 have := h.dn i hi _ hk
 omega
def ownFu (ns : List S101) (ps : List Int) (root : Int) : Nat → Int → Int
 | 0, _ => -1
 | f + 1, i => if kdOf ns i = 3 then i else if i = root then -1 else ownFu ns ps root f (rd ps i)
def ownL (ns : List S101) (ps : List Int) (root : Int) : List Int := (List.range ns.length).map (fun i : Nat => ownFu ns ps root ns.length (i : Int))
section
variable {ns : List S101} {ps : List Int} (hP : ParOk ns ps)
include hP
theorem own_stay : ∀ (f g : Nat) (i : Int), 0 ≤ i → i < ns.length → (ns.length : Int) - i ≤ f → (ns.length : Int) - i ≤ g → ownFu ns ps ((ns.length : Int) - 1) f i = ownFu ns ps ((ns.length : Int) - 1) g i
 | 0, g, i, h0, h1, hf, hg => by omega
 | f + 1, 0, i, h0, h1, hf, hg => by omega
 | f + 1, g + 1, i, h0, h1, hf, hg => by
  rw [ownFu, ownFu]
  by_cases h3 : kdOf ns i = 3
  ·rw [if_pos h3, if_pos h3]
  ·rw [if_neg h3, if_neg h3]
   by_cases hr : i = (ns.length : Int) - 1
   ·rw [if_pos hr, if_pos hr]
   ·rw [if_neg hr, if_neg hr]
    have := hP.lt i h0 (by omega)
    exact own_stay f g _ (by omega) this.2 (by omega) (by omega)
theorem ownL_rd (i : Int) (h0 : 0 ≤ i) (h1 : i < ns.length) : rd (ownL ns ps ((ns.length : Int) - 1)) i = ownFu ns ps ((ns.length : Int) - 1) ns.length i := by
 obtain ⟨j, rfl⟩ := Int.eq_ofNat_of_zero_le h0
 have : j < ns.length := by omega
 simp [rd, ownL, this]
theorem own_eq : OwnEq ns ps ((ns.length : Int) - 1) (ownL ns ps ((ns.length : Int) - 1)) := by
 refine ⟨by simp [ownL], fun i h0 h1 => ?_⟩
 rw [ownL_rd hP i h0 h1, own_stay hP ns.length (ns.length + 1) i h0 h1 (by omega) (by omega), ownFu]
 by_cases h3 : kdOf ns i = 3
 ·rw [if_pos h3, if_pos h3]
 ·rw [if_neg h3, if_neg h3]
  by_cases hr : i = (ns.length : Int) - 1
  ·rw [if_pos hr, if_pos hr]
  ·have := hP.lt i h0 (by omega)
   rw [if_neg hr, if_neg hr, ownL_rd hP _ (by omega) this.2]
theorem own_ok {ol : List Int} (h : OwnEq ns ps ((ns.length : Int) - 1) ol) : OwnOk ns ol := by
 refine ⟨h.1, ?_⟩
 have key : ∀ (f : Nat) (i : Int), 0 ≤ i → i < ns.length → (ns.length : Int) - i ≤ f → rd ol i = -1 ∨ (0 ≤ rd ol i ∧ rd ol i < ns.length ∧ kdOf ns (rd ol i) = 3) := by
  intro f
  induction f with
  | zero => intro i h0 h1 hf; omega
  | succ f ih =>
   intro i h0 h1 hf
   rw [h.2 i h0 h1]
   by_cases h3 : kdOf ns i = 3
   ·rw [if_pos h3]
    exact .inr ⟨h0, h1, h3⟩
   ·rw [if_neg h3]
    by_cases hr : i = (ns.length : Int) - 1
    ·rw [if_pos hr]
     exact .inl rfl
    ·have := hP.lt i h0 (by omega)
     rw [if_neg hr]
     exact ih _ (by omega) this.2 (by omega)
 exact fun i h0 h1 => key ns.length i h0 h1 (by omega)
theorem own_some (hA : AllOk ns) {ol : List Int} (h : OwnEq ns ps ((ns.length : Int) - 1) ol) (hroot : kdOf ns ((ns.length : Int) - 1) = 1) : ∀ i : Int, 0 ≤ i → i < ns.length → kdOf ns i ≠ 1 → kdOf ns i ≠ 2 → rd ol i ≠ -1 := by
 have key : ∀ (f : Nat) (i : Int), 0 ≤ i → i < ns.length → (ns.length : Int) - i ≤ f → kdOf ns i ≠ 1 → kdOf ns i ≠ 2 → rd ol i ≠ -1 := by
  intro f
  induction f with
  | zero => intro i h0 h1 hf; omega
  | succ f ih =>
   intro i h0 h1 hf k1 k2
   rw [h.2 i h0 h1]
   by_cases h3 : kdOf ns i = 3
   ·rw [if_pos h3]
    omega
   ·rw [if_neg h3]
    by_cases hr : i = (ns.length : Int) - 1
    ·rw [hr] at k1
     exact absurd hroot k1
    ·rw [if_neg hr]
     obtain ⟨j, rfl⟩ := Int.eq_ofNat_of_zero_le h0
     obtain ⟨q, ⟨hq, hkq⟩, e⟩ := hP.up j (by omega)
     have hd := hP.dn q hq _ hkq
     have hkq' : (j : Int) ∈ (rd_T101 ns (q : Int)).f4 := by rw [rdT24 ns q hq]; exact hkq
     rw [e]
     refine ih (q : Int) (by omega) (by omega) (by omega) (fun e1 => ?_) (fun e2 => ?_)
     ·rcases kids_of1 hA (by omega) (by omega) e1 _ hkq' with e | e
      ·exact k2 e
      ·exact h3 e
     ·rw [kids_leaf hA (by omega) (by omega) (.inl e2)] at hkq'
      simp at hkq'
 exact fun i h0 h1 => key ns.length i h0 h1 (by omega)
end
structure Rt (ns : List S101) (root : Int) (ol : List Int) : Prop where
 n0 : 0 < ns.length
 fit : Fit ns
 rt : root = (ns.length : Int) - 1
 ok : AllOk ns
 one : kdOf ns root = 1
 par : ∃ kf ps, tree_Parents.f kf ns root = some ps ∧ ParOk ns ps ∧ OwnEq ns ps root ol
 right : tree_Sound.f ns root = some true ∧ ∃ kf d, tree_Depth.f kf ns root = some d ∧ rightB ns root d = true
theorem Rt.kidsIn {ns : List S101} {root : Int} {ol : List Int} (h : Rt ns root ol) : KidsIn ns := fun x hx => ⟨(h.fit.2 x hx).1, (h.fit.2 x hx).2.1⟩
theorem Rt.sz {ns : List S101} {root : Int} {ol : List Int} (h : Rt ns root ol) : ∀ x ∈ ns, x.f3.size ≤ 140737488351232 := fun x hx => (h.fit.2 x hx).2.2
theorem Rt.own {ns : List S101} {root : Int} {ol : List Int} (h : Rt ns root ol) : OwnOk ns ol := by
 obtain ⟨kf, ps, h1, h2, h3⟩ := h.par
 rw [h.rt] at h3
 exact own_ok h2 h3
theorem Rt.some_ {ns : List S101} {root : Int} {ol : List Int} (h : Rt ns root ol) : ∀ i : Int, 0 ≤ i → i < ns.length → kdOf ns i ≠ 1 → kdOf ns i ≠ 2 → rd ol i ≠ -1 := by
 obtain ⟨kf, ps, h1, h2, h3⟩ := h.par
 have ho := h.one
 rw [h.rt] at h3 ho
 exact own_some h2 h.ok h3 ho
theorem Rt.pre {ns : List S101} {root : Int} {ol : List Int} (h : Rt ns root ol) (i : Int) (h0 : 0 ≤ i) (h1 : i < ns.length) : PreN ns ol i :=
 ⟨kids_some h.ok h0 h1, fun hk => h.some_ i h0 h1 (by omega) (by omega), (h.ok.at_ h0 h1).1, (h.ok.at_ h0 h1).2.1⟩
def rtB (ns : List S101) (root : Int) (b : Bool) : Prop := (tree_Sound.f ns root = some false ∧ b = false) ∨ (Fit ns ∧ 0 < ns.length ∧ root = (ns.length : Int) - 1 ∧ tree_Sound.f ns root = some true ∧ ∃ kf d, tree_Depth.f kf ns root = some d ∧ b = rightB ns root d)
theorem rt_cases (ns : List S101) (root : Int) (hk : ∀ x ∈ ns, x.f3.size ≤ 140737488351232) : rtB ns root false ∨ (rtB ns root true ∧ ∃ ol, Rt ns root ol) := by
 rcases sound_cases ns root with h | ⟨T, rfl, hT, rfl⟩
 ·exact .inl (.inl ⟨h, rfl⟩)
 ·have hfl := RT.flat_len 0 T
  have hp := RT.size_pos T
  have hF := fit_flat T hT hk
  have hs := sound_flat T hT
  obtain ⟨kf, hd⟩ := (depth_ev T hT).rounds
  have hr : ((T.size : Int) - 1) = ((RT.flat 0 T).length : Int) - 1 := by rw [hfl]
  cases hb : rightB (RT.flat 0 T) ((T.size : Int) - 1) (T.depth : Int) with
  | false => exact .inl (.inr ⟨hF, by omega, hr, hs, kf, _, hd, hb.symm⟩)
  | true =>
   refine .inr ⟨.inr ⟨hF, by omega, hr, hs, kf, _, hd, hb.symm⟩, ?_⟩
   obtain ⟨kp, hpar⟩ := (pars_ev T hT).rounds
   have hPO := pars_ok T hT
   have hb2 := hb
   unfold rightB at hb2
   simp only [Bool.and_eq_true] at hb2
   have he := own_eq hPO
   rw [← hr] at he
   exact ⟨_, by omega, hF, hr, hb2.2, by have := hb2.1.2; simpa [kdOf] using this, ⟨kp, _, hpar, hPO, he⟩, hs, kf, _, hd, hb⟩
theorem right_b (At : Option Addr) (ct : Nat) (ns : List S101) (root : Int) (b : Bool) (hb : rtB ns root b) (w : World) (hC : Kd.C k101 w At ns.length ns) (hct : ns.length ≤ ct) (hE : Env w) :
  Calls Try.prog 50 #[.agg #[.slice At ns.length ct, .int .i64 root]] w fun e w' => e = .returned (.bool b) ∧ Below w.heap.size w w' := by
 rcases hb with ⟨h1, rfl⟩ | ⟨hF, hn, hr, hs, kf, d, hd, rfl⟩
 ·exact right_no At ct ns root w hC hct h1
 ·exact right_yes At ct ns root w hC hct hE hF (by omega) (by omega) kf d hs hd
theorem learn_rt (At : Option Addr) (ct : Nat) (ns : List S101) (root : Int) (ol : List Int) (hR : Rt ns root ol) (w : World) (hC : Kd.C k101 w At ns.length ns) (hct : ns.length ≤ ct) :
  Calls Try.prog 51 #[.agg #[.slice At ns.length ct, .int .i64 root]] w fun e w' => ∃ p, e = .returned (.pointer (some ⟨p, 0, none⟩)) ∧ Sc p At ct ns root ol w' ∧ Below w.heap.size w w' := by
 obtain ⟨kf, ps, h1, h2, h3⟩ := hR.par
 exact learn_is At ct ns root w hC hct hR.n0 hR.fit.1 hR.sz hR.rt kf ps h1 h2.len (fun i h0 h1 => h2.lt i h0 (by have := hR.rt; omega)) ol h3 hR.own (fun i h0 h1 hk => hR.some_ i h0 h1 (by omega) (by omega))
def badF (ns : List S101) (ol : List Int) : Nat → Int
 | 0 => 0
 | i + 1 => if badF ns ol i = 0 then checkF ns ol (i : Int) else badF ns ol i
def mainT : ByteArray := ⟨#[109, 97, 105, 110]⟩
def mainF (ns : List S101) : Int := if procF ns mainT.data.toList = -1 ∨ nOf ns (procF ns mainT.data.toList) ≠ 0 ∨ paramsF ns (procF ns mainT.data.toList) ≠ [] then 11 else 0
def chkF (ns : List S101) (ol : List Int) : Int := if badF ns ol ns.length = 0 then mainF ns else badF ns ol ns.length
theorem badF_stay (ns : List S101) (ol : List Int) (i : Nat) : ∀ d, badF ns ol i ≠ 0 → badF ns ol (i + d) = badF ns ol i
 | 0, h => rfl
 | d + 1, h => by
  have := badF_stay ns ol i d h
  rw [← Nat.add_assoc, badF, this, if_neg h]
set_option maxRecDepth 100000 in
set_option maxHeartbeats 8000000 in
theorem Check_no (At : Option Addr) (ct : Nat) (ns : List S101) (root : Int) (hb : rtB ns root false) (w : World) (hC : Kd.C k101 w At ns.length ns) (hct : ns.length ≤ ct) (hE : Env w) :
  Calls Try.prog 29 #[.agg #[.slice At ns.length ct, .int .i64 root]] w fun e w' => e = .returned (.tuple #[.int .i64 0, .int .i64 1]) ∧ Below w.heap.size w w' := by
 have HB0 := Lib.hid (fun o => below_alloc (Below.refl w.heap.size w) o)
 have HX := Lib.hid (fun o => right_b At ct ns root false hb (w.alloc o) (Kd.C_alloc hC o) hct (hE.below (below_alloc (Below.refl _ _) _) hE.six))
 clear hC hE hb
 go_enter Try.func29, Try.ntmps29
 go_wp2_with fail
 refine (HX.out _).mono ?_
 rintro e_ W1 ⟨rfl, hb_⟩
 have HB1 := Lib.hid (below_step (HB0.out _) hb_)
 clear hb_
 go_wp2_with fail
 go_ret2
 exact ⟨rfl, HB1.out⟩
set_option maxRecDepth 100000 in
set_option maxHeartbeats 8000000 in
theorem Check_yes (At : Option Addr) (ct : Nat) (ns : List S101) (root : Int) (ol : List Int) (hR : Rt ns root ol) (hb : rtB ns root true) (w : World) (hC : Kd.C k101 w At ns.length ns) (hct : ns.length ≤ ct) (hE : Env w) :
  Calls Try.prog 29 #[.agg #[.slice At ns.length ct, .int .i64 root]] w fun e w' => ∃ a : Int, e = .returned (.tuple #[.int .i64 a, .int .i64 (chkF ns ol)]) ∧ Below w.heap.size w w' := by
 have hb0 : Below w.heap.size w (w.alloc (.cells #[.slice At ns.length ct, .int .i64 root] 69)) := below_alloc (Below.refl _ _) _
 have x0 := blk_new w (.cells #[.slice At ns.length ct, .int .i64 root] 69)
 obtain ⟨W0, hW0⟩ : ∃ W0, W0 = w.alloc (.cells #[.slice At ns.length ct, .int .i64 root] 69) := ⟨_, rfl⟩
 rw [← hW0] at hb0 x0
 have HB0 := Lib.hid hb0
 have X0 := Lib.hid x0
 have HW0 := Lib.hid hW0
 have HR := Lib.hid hR
 have HC := Lib.hid hC
 have HE := Lib.hid hE
 have HRB := Lib.hid hb
 have hn0 := hR.n0
 have hn := hR.fit.1
 obtain ⟨R, hRR⟩ : ∃ R, R = chkF ns ol := ⟨_, rfl⟩
 rw [← hRR]
 have HRR := Lib.hid hRR
 clear hW0 hb0 x0 hR hC hE hb hRR
 go_enter Try.func29, Try.ntmps29
 go_wp2_with fail
 rw [← HW0.out]
 refine (right_b At ct ns root true HRB.out W0 (Kd.C_below HC.out HB0.out) hct (HE.out.below HB0.out HE.out.six)).mono ?_
 rintro e_ W1 ⟨rfl, hb_⟩
 have HB1 := Lib.hid (below_step HB0.out hb_)
 have X1 := Lib.hid (blk_below X0.out hb_)
 clear hb_ HB0 X0 HW0
 have c0 : W1.cell? ⟨w.heap.size, 0, none⟩ = some (.slice At ns.length ct) := (blk_cell X1.out 0).trans rfl
 have c1 : W1.cell? ⟨w.heap.size, 1, none⟩ = some (.int .i64 root) := (blk_cell X1.out 1).trans rfl
 go_wp2_with fail
 refine (learn_rt At ct ns root ol HR.out W1 (Kd.C_below HC.out HB1.out) hct).mono ?_
 rintro e_ W2 ⟨p, rfl, hs_, hb_⟩
 have HB2 := Lib.hid (below_step HB1.out hb_)
 have X2 := Lib.hid (blk_below X1.out hb_)
 have HS := Lib.hid hs_
 clear hb_ hs_ HB1 X1 c0 c1
 have c0 : W2.cell? ⟨w.heap.size, 0, none⟩ = some (.slice At ns.length ct) := (blk_cell X2.out 0).trans rfl
 go_wp2_with fail
 clear c0
 go_loopg [16] (ns.length + 1) (fun kq v16 W => ∃ i : Nat, v16 = .int .i64 i ∧ i ≤ ns.length ∧ Hid (i + kq = ns.length + 1) ∧ Hid (badF ns ol i = 0) ∧ Hid (Sc p At ct ns root ol W) ∧ Hid (Below w.heap.size w W) ∧ Hid (W.heap[w.heap.size]? = some (.cells #[.slice At ns.length ct, .int .i64 root] 69 (0, 0))))
 case atStart => exact ⟨0, rfl, Nat.zero_le _, Lib.hid (by omega), Lib.hid rfl, HS, HB2, X2⟩
 case round =>
  clear HS HB2 X2
  obtain ⟨i, rfl, hi, HN, HBD, HS, HB, HX⟩ := hrel
  by_cases hlt : i < ns.length
  ·have HCK := Lib.hid (check_is p At ct ns root ol (i : Int) (by omega) (by omega) HR.out.kidsIn (HR.out.pre (i : Int) (by omega) (by omega)) wr HS.out)
   have HST : Hid (badF ns ol (i + 1) = checkF ns ol (i : Int)) := Lib.hid (by rw [badF, if_pos HBD.out])
   obtain ⟨ce, hce⟩ : ∃ ce, ce = checkF ns ol (i : Int) := ⟨_, rfl⟩
   rw [← hce] at HCK HST
   clear hce
   by_cases he : ce = 0
   ·subst he
    go_wp2_with fail
    refine HCK.out.mono ?_
    rintro e_ W3 ⟨rfl, hb_⟩
    have HB3 := Lib.hid (below_step HB.out hb_)
    have HX3 := Lib.hid (blk_below HX.out hb_)
    have HS3 := Lib.hid (HS.out.below hb_)
    clear hb_
    go_wp2_with fail
    go_roundg (gk - 1)
    case measure => have := HN.out; omega
    case rel => exact ⟨i + 1, by norm_cast, hlt, Lib.hid (by have := HN.out; omega), HST, HS3, HB3, HX3⟩
   ·have hR : R = ce := by
     have h1 := badF_stay ns ol (i + 1) (ns.length - (i + 1)) (by rw [HST.out]; exact he)
     rw [show i + 1 + (ns.length - (i + 1)) = ns.length from by omega, HST.out] at h1
     rw [HRR.out, chkF, h1, if_neg he]
    have HR2 := Lib.hid hR
    clear hR
    go_wp2_with fail
    refine HCK.out.mono ?_
    rintro e_ W3 ⟨rfl, hb_⟩
    have HB3 := Lib.hid (below_step HB.out hb_)
    clear hb_
    go_wp2_with fail
    go_ret2
    exact ⟨_, by rw [HR2.out]; rfl, HB3.out⟩
  ·obtain rfl : i = ns.length := by omega
   have hR : R = mainF ns := by rw [HRR.out, chkF, if_pos HBD.out]
   unfold mainF at hR
   have HP := Lib.hid (proc_is p At ct ns root ol mainT (by decide) wr HS.out)
   have HPR := Lib.hid (procF_range ns mainT.data.toList)
   obtain ⟨m, hm⟩ : ∃ m, m = procF ns mainT.data.toList := ⟨_, rfl⟩
   rw [← hm] at HP HPR hR
   have HR2 := Lib.hid hR
   clear hm hR
   go_wp2_with fail
   refine (HP.out).mono ?_
   rintro e_ W3 ⟨rfl, hb_⟩
   have HB3 := Lib.hid (below_step HB.out hb_)
   have HX3 := Lib.hid (blk_below HX.out hb_)
   have HS3 := Lib.hid (HS.out.below hb_)
   clear hb_
   have d0 : W3.cell? ⟨w.heap.size, 0, none⟩ = some (.slice At ns.length ct) := (blk_cell HX3.out 0).trans rfl
   have d1 : W3.cell? ⟨w.heap.size, 1, none⟩ = some (.int .i64 root) := (blk_cell HX3.out 1).trans rfl
   by_cases hm : m = -1
   ·subst hm
    have hR : R = 11 := by rw [HR2.out, if_pos (.inl rfl)]
    subst hR
    clear HRR HR2
    go_wp2_with fail
    go_ret2
    exact ⟨_, rfl, HB3.out⟩
   ·have hmr := HPR.out.resolve_left hm
    obtain ⟨ad, A4, c4, eA, z0, z1, z2, z3, z4, l4, g4⟩ := at_T101 (Kd.C_below HC.out HB3.out) m hmr.1 hmr.2
    have e0 := eq_true hmr.1
    have e1 := eq_true hmr.2
    have hn1 : nOf ns m = (rd_T101 ns m).f1 := rfl
    have HPA := Lib.hid (params_is p At ct ns root ol m hmr.1 hmr.2 HR.out.kidsIn W3 HS3.out)
    rw [← hn1] at z1
    obtain ⟨a, ha⟩ : ∃ a, a = nOf ns m := ⟨_, rfl⟩
    rw [← ha] at z1 HR2
    obtain ⟨pl, hpl⟩ : ∃ pl, pl = paramsF ns m := ⟨_, rfl⟩
    rw [← hpl] at HPA HR2
    have hmb : (m == -1) = false := by simpa using hm
    cases eA
    clear hmr z0 z2 z3 z4 l4 g4 hn1 ha hpl
    by_cases ha : a = 0
    ·subst ha
     go_wp2_with fail
     refine (HPA.out).mono ?_
     rintro e_ W4 ⟨v, rfl, hr_, hb_⟩
     obtain ⟨Ap, cp, rfl, hle_, hC_⟩ := Kd.R_reads hr_
     have HB4 := Lib.hid (below_step HB3.out hb_)
     have HX4 := Lib.hid (blk_below HX3.out hb_)
     clear hb_ hr_ hC_ d0 d1
     have d1 : W4.cell? ⟨w.heap.size, 1, none⟩ = some (.int .i64 root) := (blk_cell HX4.out 1).trans rfl
     by_cases hp : pl = []
     ·subst hp
      have hR : R = 0 := by rw [HR2.out, if_neg (by rintro (h | h | h); exact hm h; exact h rfl; exact h rfl)]
      subst hR
      clear HRR HR2
      go_wp2_with fail
      go_ret2
      exact ⟨_, rfl, HB4.out⟩
     ·have hR : R = 11 := by rw [HR2.out, if_pos (.inr (.inr hp))]
      subst hR
      have hl : 0 < pl.length := List.length_pos_iff.2 hp
      have hlb : decide (0 < (pl.length : Int)) = true := decide_eq_true (by omega)
      have hlb2 : decide (0 < pl.length) = true := decide_eq_true hl
      clear HRR HR2 hp
      go_wp2_with fail
      go_ret2
      exact ⟨_, rfl, HB4.out⟩
    ·have hR : R = 11 := by rw [HR2.out, if_pos (.inr (.inl ha))]
     subst hR
     have hab : (a != 0) = true := by simpa using ha
     clear HRR HR2
     go_wp2_with fail
     go_ret2
     exact ⟨_, rfl, HB3.out⟩
end Go.Proofs.Ytkhlfdcjgooogaa.P
