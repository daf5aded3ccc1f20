/- Plain laws of chapter 4: sound trees, their depths, the trees of their nodes. -/
import Derived.Test.YtpggidmpkhmijaaRose
import Derived.Test.YtpggidmpkhmijaaPureA
import Derived.Test.YtpggidmpkhmijaaPf15
import Derived.Test.YtpggidmpkhmijaaPf16
import Derived.Test.YtpggidmpkhmijaaHDepth
namespace Go.Proofs.Ytpggidmpkhmijaa.P
open Go.RowKit Go.Proofs.YtpggidmpkhmijaaW.PrintWords Go.Proofs.YtpggidmpkhmijaaW.PrintLast Go.Proofs.YtpggidmpkhmijaaW.PrintMore
set_option linter.unusedVariables false

theorem outer_whole (t : RT) : szOuter (RT.flat 0 t) [] = some t.szs := by
  have h := outer_flat t [] []
  simpa [szOuter] using h
theorem sizes_flat (t : RT) (h : t.size ≤ 4000) : tree_sizes.f (RT.flat 0 t) = some (t.szs, true) := by
  unfold tree_sizes.f
  rw [if_pos (by rw [RT.flat_len]; omega), outer_whole]
theorem sound_flat (t : RT) (h : t.size ≤ 4000) : tree_Sound.f (RT.flat 0 t) ((t.size : Int) - 1) = some true := by
  have hp := RT.size_pos t
  have hl := RT.flat_len 0 t
  unfold tree_Sound.f
  rw [if_neg (by omega), if_neg (by omega), if_pos (by rw [hl]; unfold wrap64; omega), sizes_flat t h]
  simp only [Option.bind_some]
  rw [if_pos trivial, if_pos (by omega), if_pos (by rw [RT.szs_len]; omega)]
  have := RT.szs_last t
  rw [show ((t.size : Int) - 1) = ((t.size - 1 : Nat) : Int) from by omega, this, RT.szs_len]
  simp
theorem sound_cases (l : List S24) (r : Int) : tree_Sound.f l r = some false ∨ ∃ t : RT, l = RT.flat 0 t ∧ t.size ≤ 4000 ∧ r = (t.size : Int) - 1 := by
  unfold tree_Sound.f
  by_cases h0 : (l.length : Int) = 0
  · rw [if_pos h0]; exact .inl rfl
  rw [if_neg h0]
  by_cases h1 : (l.length : Int) > 4000
  · rw [if_pos h1]; exact .inl rfl
  rw [if_neg h1]
  by_cases h2 : r = wrap64 ((l.length : Int) - 1)
  · rw [if_pos h2]
    have hr : r = ((l.length - 1 : Nat) : Int) := by rw [h2]; unfold wrap64; omega
    cases ho : szOuter l [] with
    | none =>
      have hs : tree_sizes.f l = some ([], false) := by unfold tree_sizes.f; rw [if_pos (by omega), ho]
      rw [hs]; exact .inl rfl
    | some out =>
      have hs : tree_sizes.f l = some (out, true) := by unfold tree_sizes.f; rw [if_pos (by omega), ho]
      rw [hs]
      simp only [Option.bind_some]
      obtain ⟨suf, e1, e2, _⟩ := outer_spec l [] out ho
      have hol : out.length = l.length := by rw [e1]; simpa using e2
      rw [if_pos trivial, if_pos (by omega), if_pos (by omega)]
      by_cases hz : rd out r = (out.length : Int)
      · right
        obtain ⟨t, ht, htl⟩ := flat_of ho (by omega) (by rw [← hr, hz, hol])
        exact ⟨t, ht, by omega, by rw [hr, htl]; omega⟩
      · left
        simp [hz]
  · rw [if_neg h2]; exact .inl rfl

/-! ### depths -/
theorem mx_max (a b : Nat) : mx (a : Int) (b : Int) = ((max a b : Nat) : Int) := by
  unfold mx
  split <;> omega
theorem mem_flat_at {ns : List S24} {o : Nat} {x : S24} {ks : List RT} (h : AtT ns o (.node x ks)) : rd_T24 ns ((o : Int) + (RT.node x ks).size - 1) = { x with f4 := RT.roots o ks } := by
  obtain ⟨_, hl, hx⟩ := h.kids
  rw [RT.size, show ((o : Int) + ((RT.sizes ks + 1 : Nat) : Int) - 1) = ((o + RT.sizes ks : Nat) : Int) from by omega, rdT24 ns _ hl, hx]
mutual
theorem deep_at (ns : List S24) (hn : ns.length < 1000000) : ∀ (t : RT) (o k : Nat), AtT ns o t → t.depth ≤ k → tree_Depth.deep k ns ((o : Int) + t.size - 1) = some (t.depth : Int)
  | .node x ks, o, k, h, hk => by
    rw [RT.depth] at hk
    obtain ⟨k, rfl⟩ : ∃ m, k = m + 1 := ⟨k - 1, by omega⟩
    have hle := h.le
    have hd := deep_kids ns hn ks o k h.kids.1 (by have := h.le; omega) (by omega) 0
    rw [Nat.zero_max, show ((0 : Nat) : Int) = 0 from rfl] at hd
    have hdl : RT.depths ks < 1000000 := by
      have := depths_le_sizes ks
      rw [RT.size] at hle
      omega
    rw [tree_Depth.deep, if_pos (by rw [RT.size]; omega), if_pos (by rw [RT.size] at hle ⊢; omega), mem_flat_at h]
    dsimp only
    rw [hd]
    simp only [Option.bind_some, RT.depth]
    congr 1
    unfold wrap64
    omega
theorem deep_kids (ns : List S24) (hn : ns.length < 1000000) : ∀ (ts : List RT) (o k : Nat), AtF ns o ts → o ≤ ns.length → RT.depths ts ≤ k → ∀ d : Nat, tree_Depth.kids (tree_Depth.deep k ns) (RT.roots o ts) (d : Int) = some ((max d (RT.depths ts) : Nat) : Int)
  | [], o, k, h, ho, hk, d => by simp [RT.roots, tree_Depth.kids, RT.depths]
  | t :: ts, o, k, h, ho, hk, d => by
    obtain ⟨h1, h2⟩ := h.head ho
    rw [RT.depths] at hk
    have e1 := deep_at ns hn t o k h1 (by omega)
    rw [RT.roots, tree_Depth.kids, e1]
    simp only [Option.bind_some]
    rw [mx_max, deep_kids ns hn ts (o + t.size) k h2 h1.le (by omega) (max d t.depth), RT.depths, Nat.max_assoc]
theorem depth_le_size : ∀ t : RT, t.depth ≤ t.size
  | .node x ks => by have := depths_le_sizes ks; rw [RT.depth, RT.size]; omega
theorem depths_le_sizes : ∀ ts : List RT, RT.depths ts ≤ RT.sizes ts
  | [] => by simp [RT.depths, RT.sizes]
  | t :: ts => by have h1 := depth_le_size t; have h2 := depths_le_sizes ts; rw [RT.depths, RT.sizes]; omega
end
theorem depth_ev (t : RT) (h : t.size ≤ 4000) : Ev (fun k => tree_Depth.f k (RT.flat 0 t) ((t.size : Int) - 1)) (t.depth : Int) := by
  have hp := RT.size_pos t
  refine ⟨t.depth, fun k hk => ?_⟩
  unfold tree_Depth.f
  rw [sound_flat t h]
  simp only [Option.bind_some, if_true]
  have := deep_at (RT.flat 0 t) (by rw [RT.flat_len]; omega) t 0 k (by unfold AtT; rw [List.drop_zero, ← RT.flat_len 0 t, List.take_length]) hk
  rw [show ((0 : Nat) : Int) = 0 from rfl, Int.zero_add] at this
  exact this
theorem depth_no (l : List S24) (r : Int) (h : tree_Sound.f l r = some false) : Ev (fun k => tree_Depth.f k l r) 0 := by
  refine ⟨0, fun k _ => ?_⟩
  unfold tree_Depth.f
  rw [h]
  simp

/-! ### the tree of a node -/
theorem wrap_small {x : Int} (h1 : -1000000 ≤ x) (h2 : x ≤ 1000000) : wrap64 x = x := by unfold wrap64; omega
theorem roots_shift (a : Int) : ∀ (ts : List RT) (o o' : Nat), o + RT.sizes ts < 500000 → o' + RT.sizes ts < 500000 → (o' : Int) = o + a → shL a (RT.roots o ts) = RT.roots o' ts
  | [], o, o', h, h', ha => rfl
  | t :: ts, o, o', h, h', ha => by
    have hp := RT.size_pos t
    rw [RT.sizes] at h h'
    have ih := roots_shift a ts (o + t.size) (o' + t.size) (by omega) (by omega) (by omega)
    simp only [shL, RT.roots, List.map_cons] at ih ⊢
    rw [ih, wrap_small (by omega) (by omega)]
    congr 1
    omega
mutual
theorem flat_shift (a : Int) : ∀ (t : RT) (o o' : Nat), o + t.size < 500000 → o' + t.size < 500000 → (o' : Int) = o + a → (RT.flat o t).map (shN a) = RT.flat o' t
  | .node x ks, o, o', h, h', ha => by
    rw [RT.size] at h h'
    rw [RT.flat, List.map_append, flats_shift a ks o o' (by omega) (by omega) ha, List.map_cons, List.map_nil, RT.flat]
    simp only [shN]
    rw [roots_shift a ks o o' (by omega) (by omega) ha]
theorem flats_shift (a : Int) : ∀ (ts : List RT) (o o' : Nat), o + RT.sizes ts < 500000 → o' + RT.sizes ts < 500000 → (o' : Int) = o + a → (RT.flats o ts).map (shN a) = RT.flats o' ts
  | [], o, o', h, h', ha => rfl
  | t :: ts, o, o', h, h', ha => by
    rw [RT.sizes] at h h'
    rw [RT.flats, List.map_append, flat_shift a t o o' (by omega) (by omega) ha, flats_shift a ts (o + t.size) (o' + t.size) (by omega) (by omega) (by omega), RT.flats]
end
/-- The tree of a place. -/
structure SubAt (ns : List S24) (o p : Nat) (szs : List Int) (t : RT) (o' : Nat) : Prop where
  at_ : AtT ns o' t
  ge : o ≤ o'
  root : o' + t.size = o + p + 1
  size : (t.size : Int) = rd szs (p : Int)
mutual
theorem subAt (ns : List S24) : ∀ (T : RT) (o p : Nat), AtT ns o T → p < T.size → ∃ t o', SubAt ns o p T.szs t o' ∧ t.depth ≤ T.depth ∧ (p + 1 < T.size → t.depth < T.depth)
  | .node x ks, o, p, h, hp => by
    rw [RT.size] at hp
    by_cases hl : p < RT.sizes ks
    · obtain ⟨t, o', h1, h2⟩ := subAts ns ks o p h.kids.1 (by have := h.le; omega) hl
      refine ⟨t, o', ⟨h1.at_, h1.ge, h1.root, ?_⟩, by rw [RT.depth]; omega, fun _ => by rw [RT.depth]; omega⟩
      rw [RT.szs, rd_append_left _ _ _ (by rw [RT.szss_len]; exact hl)]
      exact h1.size
    · have hpe : p = RT.sizes ks := by omega
      refine ⟨.node x ks, o, ⟨h, Nat.le_refl _, by rw [RT.size, hpe]; omega, ?_⟩, Nat.le_refl _, fun hc => by rw [RT.size] at hc; omega⟩
      have := RT.szs_last (.node x ks)
      rw [RT.size, Nat.add_sub_cancel] at this
      rw [hpe, this, RT.size]
theorem subAts (ns : List S24) : ∀ (ts : List RT) (o p : Nat), AtF ns o ts → o ≤ ns.length → p < RT.sizes ts → ∃ t o', SubAt ns o p (RT.szss ts) t o' ∧ t.depth ≤ RT.depths ts
  | [], o, p, h, ho, hp => by simp [RT.sizes] at hp
  | t :: ts, o, p, h, ho, hp => by
    obtain ⟨h1, h2⟩ := h.head ho
    rw [RT.sizes] at hp
    by_cases hl : p < t.size
    · obtain ⟨t', o', q1, q2, _⟩ := subAt ns t o p h1 hl
      refine ⟨t', o', ⟨q1.at_, q1.ge, q1.root, ?_⟩, by rw [RT.depths]; omega⟩
      rw [RT.szss, rd_append_left _ _ _ (by rw [RT.szs_len]; exact hl)]
      exact q1.size
    · obtain ⟨t', o', q1, q2⟩ := subAts ns ts (o + t.size) (p - t.size) h2 h1.le (by omega)
      refine ⟨t', o', ⟨q1.at_, by have := q1.ge; omega, by have := q1.root; omega, ?_⟩, by rw [RT.depths]; omega⟩
      rw [RT.szss, show (p : Int) = ((t.szs.length + (p - t.size) : Nat) : Int) from by rw [RT.szs_len]; omega, rd_append_right]
      exact q1.size
end
theorem kids_le_sizes : ∀ ks : List RT, ks.length ≤ RT.sizes ks
  | [] => by simp [RT.sizes]
  | t :: ts => by have h1 := RT.size_pos t; have h2 := kids_le_sizes ts; rw [RT.sizes, List.length_cons]; omega
theorem flat_kids_le (T : RT) (hT : T.size ≤ 4000) : ∀ x ∈ RT.flat 0 T, x.f4.length ≤ 4000 := by
  intro x hx
  obtain ⟨i, hi, rfl⟩ := List.mem_iff_getElem.1 hx
  have hi' : i < T.size := by rwa [RT.flat_len] at hi
  have hat : AtT (RT.flat 0 T) 0 T := by unfold AtT; rw [List.drop_zero, ← RT.flat_len 0 T, List.take_length]
  obtain ⟨t, o', hs, _⟩ := subAt (RT.flat 0 T) T 0 i hat hi'
  have hroot := hs.root
  have hle := hs.at_.le
  rw [RT.flat_len] at hle
  cases t with
  | node y ks =>
    obtain ⟨_, hl, hx⟩ := hs.at_.kids
    rw [RT.size] at hroot
    have he : o' + RT.sizes ks = i := by omega
    simp only [he] at hx
    rw [hx]
    simp only [RT.roots_len]
    have := kids_le_sizes ks
    rw [RT.size] at hle
    omega
theorem sub_l0 (ns : List S24) (hn : ns.length < 1000000) (hk : ∀ x ∈ ns, x.f4.length < 1000000) (a rt : Int) : ∀ (d i : Nat) (acc : List S24), i + d = ns.length → acc.length = i →
    Ev (fun k => tree_Sub.l0 k a ns (ns.length : Int) (i : Int) acc rt) (acc ++ (ns.drop i).map (shN (wrap64 (-a))), rt)
  | 0, i, acc, hd, ha => by
    rw [List.drop_of_length_le (by omega), List.map_nil, List.append_nil]
    exact Ev.step (fun k => by simp only [tree_Sub.l0]; rw [if_neg (by omega)]) (Ev.now _)
  | d + 1, i, acc, hd, ha => by
    have hi : i < ns.length := by omega
    refine Ev.step (f := fun k => (tree_shift.f k ns[i].f0 ns[i].f1 ns[i].f2 ns[i].f3 ns[i].f4 (wrap64 (-a))).bind fun bt => tree_Sub.l0 k a ns (ns.length : Int) ((i + 1 : Nat) : Int) (acc ++ [⟨bt.1, bt.2.1, bt.2.2.1, bt.2.2.2.1, bt.2.2.2.2⟩]) rt)
      (fun k => by simp only [tree_Sub.l0]; rw [if_pos (by omega), if_pos (by omega), if_pos (by omega), rdT24 ns i hi, wrapS i (by omega)]; simp only [if_pos (show acc.length < 2199023255552 by omega)]) ?_
    refine Ev.bind (shift_ev _ ns[i] (by have := hk ns[i] (List.getElem_mem hi); omega)) ?_
    have h := sub_l0 ns hn hk a rt d (i + 1) (acc ++ [shN (wrap64 (-a)) ns[i]]) (by omega) (by simp [ha])
    rw [List.drop_eq_getElem_cons hi, List.map_cons]
    rw [List.append_assoc, List.cons_append, List.nil_append] at h
    exact h
/-- What Sub tells of a place in a sound tree. -/
theorem sub_ev (T : RT) (hT : T.size ≤ 4000) (t : RT) (o' p : Nat) (hp : p < T.size) (hs : SubAt (RT.flat 0 T) 0 p T.szs t o') : Ev (fun k => tree_Sub.f k (RT.flat 0 T) ((T.size : Int) - 1) (p : Int)) (RT.flat 0 t, (t.size : Int) - 1) := by
  have hr := hs.root
  have htp := RT.size_pos t
  have hsz := hs.size
  unfold tree_Sub.f
  rw [sound_flat T hT]
  simp only [Option.bind_some]
  refine ev_iff (by trivial) (ev_ifn (by omega) ?_)
  rw [show decide ((p : Int) ≥ ((RT.flat 0 T).length : Int)) = false from by rw [RT.flat_len]; simp; omega]
  refine Ev.step (f := fun k => tree_Sub.l0 k (o' : Int) (RT.flat o' t) ((RT.flat o' t).length : Int) ((0 : Nat) : Int) [] ((t.size : Int) - 1)) (fun k => ?_) ?_
  · simp only [tree_Sub.j0]
    rw [if_neg (by simp), sizes_flat T hT]
    simp only [Option.bind_some]
    have e1 : wrap64 ((p : Int) + 1) = ((p + 1 : Nat) : Int) := wrapS p (by omega)
    have e2 : wrap64 (((p + 1 : Nat) : Int) - rd T.szs (p : Int)) = (o' : Int) := by rw [← hsz, wrap_small (by omega) (by omega)]; omega
    have e3 : wrap64 ((p : Int) - (o' : Int)) = (t.size : Int) - 1 := by rw [wrap_small (by omega) (by omega)]; omega
    rw [e1, e2, e3, if_pos (by omega), if_pos (by rw [RT.szs_len]; omega), if_pos (by omega), if_pos (by omega), if_pos (by rw [RT.flat_len]; omega)]
    simp only [Int.toNat_natCast]
    have e4 : ((RT.flat 0 T).take (p + 1)).drop o' = RT.flat o' t := by
      have := hs.at_
      unfold AtT at this
      rw [← this, List.drop_take, show p + 1 - o' = t.size from by omega]
    rw [e4]
    rfl
  · have hk : ∀ x ∈ RT.flat o' t, x.f4.length < 1000000 := fun x hx => by
      rw [← (show _ = _ from hs.at_)] at hx
      have := flat_kids_le T hT x (List.mem_of_mem_drop (List.mem_of_mem_take hx))
      omega
    have h := sub_l0 (RT.flat o' t) (by rw [RT.flat_len]; omega) hk (o' : Int) ((t.size : Int) - 1) (RT.flat o' t).length 0 [] (by omega) rfl
    rw [List.nil_append, List.drop_zero, flat_shift (wrap64 (-(o' : Int))) t o' 0 (by omega) (by omega) (by rw [wrap_small (by omega) (by omega)]; omega)] at h
    exact h
theorem sub_no (l : List S24) (r p : Int) (h : tree_Sound.f l r = some false ∨ (tree_Sound.f l r = some true ∧ (p < 0 ∨ p ≥ (l.length : Int)))) : Ev (fun k => tree_Sub.f k l r p) ([], 0) := by
  have hj : Ev (fun k => tree_Sub.j0 k p true l r) ([], 0) := Ev.step (fun k => by simp only [tree_Sub.j0]; rw [if_pos trivial]) (Ev.now _)
  unfold tree_Sub.f
  rcases h with h | ⟨h, hp⟩
  · rw [h]
    simp only [Option.bind_some]
    exact ev_ifn (by simp) hj
  · rw [h]
    simp only [Option.bind_some]
    refine ev_iff (by trivial) ?_
    by_cases h0 : p < 0
    · exact ev_iff h0 hj
    · refine ev_ifn h0 ?_
      rw [show decide (p ≥ (l.length : Int)) = true from by simp; omega]
      exact hj
end Go.Proofs.Ytpggidmpkhmijaa.P
