/- chapter 4: a node over trees, and what they are without places, is the document's: TreeOvers answers true for every node and all trees. No condition. -/
import Derived.Test.YtpggidmpkhmijaaPureA
import Derived.Test.YtpggidmpkhmijaaPf3
namespace Go.Proofs.Ytpggidmpkhmijaa.P
open Go.RowKit Go.Proofs.YtpggidmpkhmijaaW.PrintWords Go.Proofs.YtpggidmpkhmijaaW.PrintLast Go.Proofs.YtpggidmpkhmijaaW.PrintMore
set_option linter.unusedVariables false
theorem ovN_len : ∀ (ks : List S30) (acc : List S24), (∀ t ∈ ks, OkT t) → (ovN ks acc).length ≤ acc.length + ks.length * 200
  | [], acc, _ => by simp [ovN]
  | k :: ks, acc, h => by
    have := ovN_len ks (acc ++ k.f0.map (shN acc.length)) (fun t ht => h t (List.mem_cons_of_mem _ ht))
    have h0 := (h k List.mem_cons_self).1
    simp only [ovN, List.length_append, List.length_map, List.length_cons] at this ⊢
    omega
theorem ovR_len : ∀ (ks : List S30) (acc : List S24) (r : List Int), (ovR ks acc r).length = r.length + ks.length
  | [], acc, r => by simp [ovR]
  | k :: ks, acc, r => by
    rw [ovR, ovR_len ks]
    simp only [List.length_append, List.length_cons, List.length_nil]
    omega
/-- What comes of a shift: no more kids than before, each a number that was wrapped. -/
def Wrapped (l : List Int) : Prop := ∀ x ∈ l, wrap64 (x + 0) = x
theorem shL_wrapped (a : Int) (l : List Int) : Wrapped (shL a l) := fun x hx => by
  obtain ⟨y, _, rfl⟩ := List.mem_map.1 hx
  exact wrap_wrap _
theorem shL_len (a : Int) (l : List Int) : (shL a l).length = l.length := by simp [shL]
theorem ovN_all : ∀ (ks : List S30) (acc : List S24), (∀ t ∈ ks, OkT t) → (∀ x ∈ acc, x.f4.length ≤ 200 ∧ Wrapped x.f4) → ∀ x ∈ ovN ks acc, x.f4.length ≤ 200 ∧ Wrapped x.f4
  | [], acc, _, h => h
  | k :: ks, acc, hk, h => by
    rw [ovN]
    refine ovN_all ks _ (fun t ht => hk t (List.mem_cons_of_mem _ ht)) (fun x hx => ?_)
    rcases List.mem_append.1 hx with hx | hx
    · exact h x hx
    · obtain ⟨y, hy, rfl⟩ := List.mem_map.1 hx
      exact ⟨by simp only [shN, shL_len]; exact ((hk k List.mem_cons_self).2 y hy).1, shL_wrapped _ _⟩
theorem ovR_wrapped : ∀ (ks : List S30) (acc : List S24) (r : List Int), Wrapped r → Wrapped (ovR ks acc r)
  | [], acc, r, h => h
  | k :: ks, acc, r, h => by
    rw [ovR]
    refine ovR_wrapped ks _ _ (fun x hx => ?_)
    rcases List.mem_append.1 hx with hx | hx
    · exact h x hx
    · rw [List.mem_singleton.1 hx]; exact wrap_wrap _
theorem shL_zero {l : List Int} (h : Wrapped l) : shL 0 l = l := by
  unfold shL
  conv => rhs; rw [← List.map_id l]
  exact List.map_congr_left fun x hx => h x hx
theorem TreeOvers_pure (a b c : Int) (s : ByteArray) (l4 : List Int) (kids : List S30) : ∃ k, runnellaw4_TreeOvers.f k a b c s l4 kids = some true := by
  refine Ev.rounds (g := fun k => runnellaw4_TreeOvers.f k a b c s l4 kids) ?_
  unfold runnellaw4_TreeOvers.f runnellaw4_shown.f
  simp only [Option.bind_some]
  refine Ev.bind (small_ev kids) ?_
  refine ev_iff (by trivial) ?_
  have stop : Ev (fun k => runnellaw4_TreeOvers.j0 k kids true true a b c s l4) true := Ev.step (fun k => by simp only [runnellaw4_TreeOvers.j0]; rw [if_pos trivial]) (Ev.now _)
  cases hs : smallS kids with
  | false => exact ev_ifn (by simp) stop
  | true =>
    refine ev_iff (by trivial) ?_
    cases hd : decide ((s.size : Int) > 200) with
    | true => exact stop
    | false =>
      obtain ⟨hl, hok⟩ := smallS_ok hs
      have hlen : (overS a b c s kids).1.length < 1000000 := by
        have := ovN_len kids [] hok
        simp only [overS, List.length_append, List.length_cons, List.length_nil] at this ⊢
        omega
      have hall : ∀ x ∈ (overS a b c s kids).1, x.f4.length ≤ 200 ∧ Wrapped x.f4 := fun x hx => by
        rcases List.mem_append.1 hx with hx | hx
        · exact ovN_all kids [] hok (fun _ h => by cases h) x hx
        · rw [List.mem_singleton.1 hx]
          exact ⟨by simp only [ovR_len, List.length_nil]; omega, ovR_wrapped kids [] [] (fun _ h => by cases h)⟩
      have hk : ∀ x ∈ (overS a b c s kids).1, x.f4.length < 1000000 := fun x hx => by have := (hall x hx).1; omega
      refine Ev.step (fun k => by simp only [runnellaw4_TreeOvers.j0]; rw [if_neg (by simp)]) ?_
      refine Ev.bind (tree_over_ev kids hl hok a b c s l4) (Ev.bind (ref_over_ev kids hl hok a b c s l4) (Ev.bind (like_ev _ _ hlen hk) (ev_iff (by trivial) ?_)))
      refine Ev.bind (tree_bare_ev _ _ hlen hk) (Ev.bind (ref_bare_ev _ _ hlen hk) ?_)
      have he : (overS a b c s kids).1.map (fun x => shN 0 (bareN x)) = (overS a b c s kids).1.map bareN := List.map_congr_left fun x hx => by
        show ({ bareN x with f4 := shL 0 (bareN x).f4 } : S24) = bareN x
        rw [show (bareN x).f4 = x.f4 from rfl, shL_zero (hall x hx).2]
        rfl
      simp only [he]
      refine Ev.bind (like_ev _ _ (by simpa using hlen) (fun x hx => ?_)) (Ev.now _)
      obtain ⟨y, hy, rfl⟩ := List.mem_map.1 hx
      exact hk y hy
end Go.Proofs.Ytpggidmpkhmijaa.P
