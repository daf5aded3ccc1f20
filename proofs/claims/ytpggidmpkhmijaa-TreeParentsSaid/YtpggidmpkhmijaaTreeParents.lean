/- chapter 4: each node but the root is one node's kid, and stands ahead of it: TreeParents answers true for every tree. No condition. -/
import Derived.Test.YtpggidmpkhmijaaPureP
import Derived.Test.YtpggidmpkhmijaaHParents
import Derived.Test.YtpggidmpkhmijaaTreeDepths
namespace Go.Proofs.Ytpggidmpkhmijaa.P
open Go.RowKit Go.Proofs.YtpggidmpkhmijaaW.PrintWords Go.Proofs.YtpggidmpkhmijaaW.PrintLast Go.Proofs.YtpggidmpkhmijaaW.PrintMore
set_option linter.unusedVariables false
theorem parents_no (l : List S24) (r : Int) (k : Nat) (h : tree_Sound.f l r = some false) : tree_Parents.f k l r = some [] := by
  unfold tree_Parents.f
  rw [h]
  rfl
theorem rd_replicate (n : Nat) (j : Int) : rd (List.replicate n (0 : Int)) j = 0 := by
  unfold rd
  rw [List.getD_eq_getElem?_getD, List.getElem?_replicate]
  split <;> rfl
/-- The parents of a sound tree's nodes. -/
theorem parents_ev (T : RT) (hT : T.size ≤ 4000) : ∃ ps : List Int, Ev (fun k => tree_Parents.f k (RT.flat 0 T) ((T.size : Int) - 1)) ps ∧ ps.length = T.size ∧ rd ps ((T.size : Int) - 1) = -1 ∧
    ∀ j : Nat, j + 1 < T.size → ∃ i : Nat, KidOf (RT.flat 0 T) j i ∧ rd ps (j : Int) = (i : Int) ∧ j < i := by
  have hp := RT.size_pos T
  have hfl := RT.flat_len 0 T
  have hS := sound_flat T hT
  have hat : AtT (RT.flat 0 T) 0 T := by unfold AtT; rw [List.drop_zero, ← RT.flat_len 0 T, List.take_length]
  have hkid : ∀ j i, KidOf (RT.flat 0 T) j i → j < i := fun j i ⟨h, hm⟩ => by
    obtain ⟨x, ks, o, e1, e2⟩ := node_at T i (by omega)
    rw [rdT24 _ i h] at e1
    rw [e1] at hm
    have := roots_mem ks o _ hm
    omega
  have hkb : ∀ x ∈ RT.flat 0 T, x.f4.length < 1000000 ∧ ∀ k ∈ x.f4, 0 ≤ k ∧ k < (T.size : Int) := fun x hx => by
    obtain ⟨i, hi, rfl⟩ := List.mem_iff_getElem.1 hx
    refine ⟨by have := flat_kids_le T hT _ hx; omega, fun k hk => ?_⟩
    obtain ⟨y, ks, o, e1, e2⟩ := node_at T i (by omega)
    rw [rdT24 _ i hi] at e1
    rw [e1] at hk
    have := roots_mem ks o _ hk
    omega
  have hlen0 : ((List.replicate T.size (0 : Int)).set (T.size - 1) (-1)).length = T.size := by simp
  obtain ⟨g1, g2⟩ := parF_get (RT.flat 0 T) ((List.replicate T.size (0 : Int)).set (T.size - 1) (-1)) (fun x hx k hk => ((hkb x hx).2 k hk).1) T.size 0 _ (by omega) rfl (fun j hj => .inr ⟨fun i' h => absurd h (Nat.not_lt_zero _), rfl⟩)
  rw [List.drop_zero, hlen0] at g1
  rw [List.drop_zero, hlen0] at g2
  refine ⟨_, ?_, g1, ?_, ?_⟩
  · obtain ⟨K, hK⟩ := par_l0 (RT.flat 0 T) (by omega) T.size hkb T.size 0 ((List.replicate T.size (0 : Int)).set (T.size - 1) (-1)) (by omega) hlen0
    refine ⟨K, fun k hk => ?_⟩
    have := hK k hk
    rw [List.drop_zero] at this
    unfold tree_Parents.f
    rw [hS]
    simp only [Option.bind_some]
    rw [if_pos trivial, if_pos (by omega), if_pos (by omega), if_pos (by omega), if_pos (by rw [List.length_replicate]; omega)]
    simp only [hfl, Int.toNat_natCast]
    rw [show ((T.size : Int) - 1).toNat = T.size - 1 from by omega]
    rw [hfl] at this
    exact this
  · rw [show ((T.size : Int) - 1) = ((T.size - 1 : Nat) : Int) from by omega]
    rcases g2 (T.size - 1) (by omega) with ⟨i', h1, h2, h3⟩ | ⟨h1, h2⟩
    · have := hkid _ _ h2; omega
    · rw [h2, rd_set _ _ _ _ (by rw [List.length_replicate]; omega), if_pos rfl]
  · intro j hj
    rcases g2 j (by omega) with ⟨i', h1, h2, h3⟩ | ⟨h1, h2⟩
    · exact ⟨i', h2, h3, hkid _ _ h2⟩
    · obtain ⟨i, hi⟩ := kid_of (RT.flat 0 T) T 0 j hat (Nat.zero_le _) (by omega)
      exact absurd hi (h1 i (by obtain ⟨h, _⟩ := hi; omega))
theorem TreeParents_calls (A : Option Addr) (c : Nat) (l : List S24) (root : Int) (w : World) (hr : Kd.C k24 w A l.length l) (hc : l.length ≤ c) :
    Calls Try.prog 6 #[.agg #[.slice A l.length c, .int .i64 root]] w fun e w' => e = .returned (.bool true) ∧ Below w.heap.size w w' := by
  obtain ⟨K0, h0⟩ := small_ev [⟨l, root⟩]
  rcases sound_cases l root with hS | ⟨T, rfl, hT, rfl⟩
  · obtain ⟨K1, h1⟩ := depth_no l root hS
    exact TreeParents_out A c l root (max K0 K1) _ w hr hc (h0 _ (by omega)) (fun _ => hS) (fun _ => parents_no _ _ _ hS) (fun _ => h1 _ (by omega))
  have hS := sound_flat T hT
  cases hb : smallS [⟨RT.flat 0 T, (T.size : Int) - 1⟩] with
  | false => exact TreeParents_out A c _ _ K0 false w hr hc (by have := h0 K0 (Nat.le_refl _); rw [hb] at this; exact this) (fun h => by cases h) (fun h => by cases h) (fun h => by cases h)
  | true =>
    rw [hb] at h0
    have hfl := RT.flat_len 0 T
    have hp := RT.size_pos T
    obtain ⟨ps, ⟨K1, h1⟩, e1, e2, e3⟩ := parents_ev T hT
    have hk : ∀ i : Nat, (i : Int) < (T.size : Int) - 1 → ∃ q : Nat, ∃ h : q < (RT.flat 0 T).length, rd ps (i : Int) = (q : Int) ∧ i < q ∧ (i : Int) ∈ (RT.flat 0 T)[q].f4 ∧ rd_T24 (RT.flat 0 T) (rd ps (i : Int)) = (RT.flat 0 T)[q] := fun i hi => by
      obtain ⟨q, ⟨hq, hm⟩, e4, e5⟩ := e3 i (by omega)
      exact ⟨q, hq, e4, e5, hm, by rw [e4, rdT24 _ q hq]⟩
    refine TreeParents_in A c _ _ (max K0 K1) ps w hr hc ⟨h0 _ (by omega), hS, h1 _ (by omega), by rw [e1, hfl], by omega, by omega, by omega, e2, fun i hi => ?_, fun i hi => ?_, fun i hi => ?_⟩
    · obtain ⟨q, hq, a1, a2, a3, a4⟩ := hk i hi
      omega
    · obtain ⟨q, hq, a1, a2, a3, a4⟩ := hk i hi
      rw [a4]
      exact flat_kids_le T hT _ (List.getElem_mem hq)
    · obtain ⟨q, hq, a1, a2, a3, a4⟩ := hk i hi
      rw [a4]
      obtain ⟨x, ks, o, b1, b2⟩ := node_at T q (by omega)
      rw [rdT24 _ q hq] at b1
      rw [b1] at a3 ⊢
      exact roots_count ks o _ a3
end Go.Proofs.Ytpggidmpkhmijaa.P
