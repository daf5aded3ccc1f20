/- chapter 4: a tree of a node is no deeper than the whole, and has no more nodes; each kid's tree is less deep than its node's: TreeDepths answers true for every tree and every number. No condition. -/
import Derived.Test.YtpggidmpkhmijaaPureB
import Derived.Test.YtpggidmpkhmijaaHDepths
namespace Go.Proofs.Ytpggidmpkhmijaa.P
open Go.RowKit Go.Proofs.YtpggidmpkhmijaaW.PrintWords Go.Proofs.YtpggidmpkhmijaaW.PrintLast Go.Proofs.YtpggidmpkhmijaaW.PrintMore
set_option linter.unusedVariables false
theorem ev_all {α : Type} {P : Nat → Nat → α → Prop} : ∀ n : Nat, (∀ j, j < n → ∃ r, ∃ K, ∀ k, K ≤ k → P j k r) → ∃ K, ∀ k, K ≤ k → ∀ j, j < n → ∃ r, P j k r
  | 0, _ => ⟨0, fun k _ j hj => absurd hj (Nat.not_lt_zero _)⟩
  | n + 1, h => by
    obtain ⟨K, hK⟩ := ev_all n (fun j hj => h j (Nat.lt_succ_of_lt hj))
    obtain ⟨r, K', hK'⟩ := h n (Nat.lt_succ_self n)
    refine ⟨max K K', fun k hk j hj => ?_⟩
    rcases Nat.lt_succ_iff_lt_or_eq.1 hj with h1 | rfl
    · exact hK k (by omega) j h1
    · exact ⟨r, hK' k (by omega)⟩
theorem small_one {l : List S24} {root : Int} (h : smallS [⟨l, root⟩] = true) : l.length ≤ 200 ∧ ∀ x ∈ l, x.f4.length ≤ 200 := by
  have := (smallS_ok h).2 ⟨l, root⟩ (by simp)
  exact ⟨this.1, fun x hx => (this.2 x hx).1⟩
theorem roots_get : ∀ (ts : List RT) (o j : Nat) (h : j < ts.length) (ns : List S24), AtF ns o ts → o ≤ ns.length →
    ∃ o', AtT ns o' ts[j] ∧ o ≤ o' ∧ (RT.roots o ts)[j]'(by rw [RT.roots_len]; exact h) = (o' : Int) + ts[j].size - 1
  | t :: ts, o, 0, h, ns, hF, ho => ⟨o, (hF.head ho).1, Nat.le_refl _, rfl⟩
  | t :: ts, o, j + 1, h, ns, hF, ho => by
    obtain ⟨h1, h2⟩ := hF.head ho
    obtain ⟨o', q1, q2, q3⟩ := roots_get ts (o + t.size) j (by simpa using h) ns h2 h1.le
    exact ⟨o', q1, by omega, q3⟩
/-- A tree that is laid in a sound tree is the tree of its root's place. -/
theorem sub_at (T : RT) (hT : T.size ≤ 4000) (t : RT) (o : Nat) (h : AtT (RT.flat 0 T) o t) : SubAt (RT.flat 0 T) 0 (o + t.size - 1) T.szs t o := by
  have hp := RT.size_pos t
  have hle := h.le
  rw [RT.flat_len] at hle
  have hat : AtT (RT.flat 0 T) 0 T := by unfold AtT; rw [List.drop_zero, ← RT.flat_len 0 T, List.take_length]
  refine ⟨h, Nat.zero_le _, by omega, ?_⟩
  -- the sizes of the nodes ahead, and of the tree, are what szOuter reckons
  obtain ⟨pre, post, e⟩ : ∃ pre post, RT.flat 0 T = pre ++ RT.flat o t ++ post ∧ pre.length = o :=
    ⟨(RT.flat 0 T).take o, ((RT.flat 0 T).drop o).drop t.size, by rw [← (show _ = RT.flat o t from h), List.append_assoc, List.take_append_drop, List.take_append_drop], by rw [List.length_take, RT.flat_len]; omega⟩
  have ho := outer_whole T
  rw [e.1, List.append_assoc] at ho
  obtain ⟨mid, hm⟩ : ∃ mid, szOuter pre [] = some mid := by
    cases hq : szOuter pre [] with
    | some mid => exact ⟨mid, rfl⟩
    | none =>
      have : ∀ (a b : List S24) (acc : List Int), szOuter a acc = none → szOuter (a ++ b) acc = none := by
        intro a
        induction a with
        | nil => intro b acc h; simp [szOuter] at h
        | cons x xs ih =>
          intro b acc h
          rw [List.cons_append]
          rw [szOuter] at h ⊢
          split
          · rfl
          · rename_i s hs
            rw [hs] at h
            exact ih b _ h
      rw [this _ _ _ hq] at ho
      cases ho
  have happ : ∀ (a b : List S24) (acc mid : List Int), szOuter a acc = some mid → szOuter (a ++ b) acc = szOuter b mid := by
    intro a
    induction a with
    | nil => intro b acc mid h; simp only [szOuter, Option.some.injEq] at h; rw [h]; rfl
    | cons x xs ih =>
      intro b acc mid h
      rw [List.cons_append]
      rw [szOuter] at h ⊢
      split
      · rename_i hs; rw [hs] at h; cases h
      · rename_i s hs
        rw [hs] at h
        exact ih b _ _ h
  rw [happ _ _ _ _ hm] at ho
  obtain ⟨suf, e1, e2, _⟩ := outer_spec pre [] mid hm
  have hml : mid.length = o := by rw [e1]; simpa [e.2] using e2
  rw [← hml, outer_flat] at ho
  obtain ⟨suf2, e3, _, _⟩ := outer_spec _ _ _ ho
  rw [e3, List.append_assoc, show ((o + t.size - 1 : Nat) : Int) = ((mid.length + (t.size - 1) : Nat) : Int) from by omega, rd_append_right, rd_append_left _ _ _ (by rw [RT.szs_len]; omega), RT.szs_last]
theorem depth_one (x : S24) (ks : List RT) : ((((RT.node x ks).depth : Nat) : Int) == 1) = (ks.length == 0) := by
  cases ks with
  | nil => simp [RT.depth, RT.depths]
  | cons t ts =>
    have := RT.depth_pos t
    rw [RT.depth, RT.depths, Bool.eq_iff_iff]
    simp
    omega
theorem TreeDepths_calls (A : Option Addr) (c : Nat) (l : List S24) (root p : Int) (w : World) (hr : Kd.C k24 w A l.length l) (hc : l.length ≤ c) :
    Calls Try.prog 5 #[.agg #[.slice A l.length c, .int .i64 root], .int .i64 p] w fun e w' => e = .returned (.bool true) ∧ Below w.heap.size w w' := by
  obtain ⟨K0, h0⟩ := small_ev [⟨l, root⟩]
  rcases sound_cases l root with hS | ⟨T, rfl, hT, rfl⟩
  · exact TreeDepths_out A c l root p K0 _ false w hr hc (h0 K0 (Nat.le_refl _)) hS (.inr rfl)
  have hS := sound_flat T hT
  cases hb : smallS [⟨RT.flat 0 T, (T.size : Int) - 1⟩] with
  | false => exact TreeDepths_out A c _ _ p K0 false true w hr hc (by have := h0 K0 (Nat.le_refl _); rw [hb] at this; exact this) hS (.inl rfl)
  | true =>
    rw [hb] at h0
    have hfl := RT.flat_len 0 T
    by_cases hp : 0 ≤ p ∧ p < (T.size : Int)
    · obtain ⟨q, rfl⟩ := Int.eq_ofNat_of_zero_le hp.1
      have hq : q < T.size := by omega
      have hat : AtT (RT.flat 0 T) 0 T := by unfold AtT; rw [List.drop_zero, ← RT.flat_len 0 T, List.take_length]
      obtain ⟨t, o, hs, hd, _⟩ := subAt (RT.flat 0 T) T 0 q hat hq
      have htT : t.size ≤ T.size := by have := hs.at_.le; rw [hfl] at this; omega
      have htp := RT.size_pos t
      obtain ⟨K1, h1⟩ := sub_ev T hT t o q hq hs
      obtain ⟨K2, h2⟩ := depth_ev t (by omega)
      obtain ⟨K3, h3⟩ := depth_ev T hT
      cases t with
      | node x ks =>
        have hroot := hs.root
        have hnd : rd_T24 (RT.flat 0 T) (q : Int) = { x with f4 := RT.roots o ks } := by
          have := mem_flat_at hs.at_
          rw [show (o : Int) + ((RT.node x ks).size : Int) - 1 = (q : Int) from by omega] at this
          exact this
        have hF := hs.at_.kids.1
        have hol : o ≤ (RT.flat 0 T).length := by have := hs.at_.le; omega
        obtain ⟨K4, h4⟩ := ev_all (P := fun j k (r : Unit) => ∀ hj : j < ks.length, ∃ kn kr dk, tree_Sub.f k (RT.flat 0 T) ((T.size : Int) - 1) ((RT.roots o ks)[j]'(by rw [RT.roots_len]; exact hj)) = some (kn, kr) ∧ tree_Depth.f k kn kr = some dk ∧ dk < ((RT.node x ks).depth : Int)) ks.length (fun j hj => by
          obtain ⟨o', a1, a2, a3⟩ := roots_get ks o j hj (RT.flat 0 T) hF hol
          have hsz := a1.le
          rw [hfl] at hsz
          have hjp := RT.size_pos ks[j]
          have hsub := sub_at T hT ks[j] o' a1
          obtain ⟨Ka, ha⟩ := sub_ev T hT ks[j] o' (o' + ks[j].size - 1) (by omega) hsub
          obtain ⟨Kb, hb⟩ := depth_ev ks[j] (by omega)
          refine ⟨(), max Ka Kb, fun k hk hj' => ⟨_, _, _, ?_, hb k (by omega), ?_⟩⟩
          · rw [a3]
            have := ha k (by omega)
            rw [show ((o' + ks[j].size - 1 : Nat) : Int) = (o' : Int) + (ks[j].size : Int) - 1 from by omega] at this
            exact this
          · have := RT.depths_le (List.getElem_mem hj)
            rw [RT.depth]
            omega)
        refine TreeDepths_in A c _ _ (q : Int) (max K0 (max K1 (max K2 (max K3 K4)))) (RT.flat 0 (.node x ks)) (((RT.node x ks).size : Int) - 1) ((RT.node x ks).depth : Int) (T.depth : Int) w hr hc
          ⟨h0 _ (by omega), hS, h1 _ (by omega), by omega, by rw [hfl]; omega, ?_, sound_flat _ (by omega), h2 _ (by omega), h3 _ (by omega), by omega, by rw [RT.flat_len, hfl]; omega, by omega, by rw [RT.flat_len]; omega, ?_, ?_⟩
        · intro j hj
          simp only [hnd] at hj ⊢
          rw [RT.roots_len] at hj
          obtain ⟨_, h⟩ := h4 (max K0 (max K1 (max K2 (max K3 K4)))) (by omega) j hj
          exact h hj
        · have hat2 : AtT (RT.flat 0 (.node x ks)) 0 (.node x ks) := by unfold AtT; rw [List.drop_zero, ← RT.flat_len 0 (.node x ks), List.take_length]
          have := mem_flat_at hat2
          rw [show ((0 : Nat) : Int) + ((RT.node x ks).size : Int) - 1 = ((RT.node x ks).size : Int) - 1 from by omega] at this
          rw [this, hnd]
        · rw [hnd, depth_one]
          simp only [RT.roots_len]
    · have hpo : p < 0 ∨ (0 ≤ p ∧ p ≥ ((RT.flat 0 T).length : Int)) := by rw [hfl]; omega
      obtain ⟨K1, h1⟩ := sub_no (RT.flat 0 T) ((T.size : Int) - 1) p (.inr ⟨hS, by omega⟩)
      obtain ⟨K2, h2⟩ := depth_no [] 0 rfl
      exact TreeDepths_no A c _ _ p (max K0 (max K1 K2)) w hr hc (h0 _ (by omega)) hS (h1 _ (by omega)) (h2 _ (by omega)) hpo
end Go.Proofs.Ytpggidmpkhmijaa.P
