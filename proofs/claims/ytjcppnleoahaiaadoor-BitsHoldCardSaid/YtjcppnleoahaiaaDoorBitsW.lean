/- The document's sets (lists that rise): plain: what its functions answer. -/
import Derived.Test.YtjcppnleoahaiaaDoorBitsV
import Derived.Test.YtjcppnleoahaiaaDoorPf42
namespace Go.Proofs.YtjcppnleoahaiaaDoor.P
open Go.RowKit Go.Proofs.YtjcppnleoahaiaaDoorW.PrintWords
set_option linter.unusedVariables false
set_option linter.unusedSimpArgs false
theorem rd_at {l : List Int} {i : Nat} (h : i < l.length) : rd l i = l[i] := by simp [rd, h]
theorem has_end (n : Int) (l : List Int) (k i : Nat) (h : ¬ i < l.length) : runnelref1_Set_Has.l0 (k + 1) n i l = some false := by
  simp only [runnelref1_Set_Has.l0]
  have c1 : ¬ (i : Int) < (l.length : Int) := by omega
  rw [if_neg c1]
theorem has_step (n : Int) (l : List Int) (k i : Nat) (h : i < l.length) : runnelref1_Set_Has.l0 (k + 1) n i l = if l[i] = n then some true else runnelref1_Set_Has.l0 k n (wrap64 ((i : Int) + 1)) l := by
  simp only [runnelref1_Set_Has.l0]
  have c1 : (i : Int) < (l.length : Int) := by omega
  have c2 : (0 : Int) ≤ (i : Int) := by omega
  rw [if_pos c1, if_pos c2, rd_at h]
theorem has_loop (n : Int) (l : List Int) (hn : l.length ≤ 1000000) (d : Nat) : ∀ (k : Nat) (i : Nat), i ≤ l.length → l.length - i = d → d < k → runnelref1_Set_Has.l0 k n i l = some (decide (n ∈ l.drop i)) := by
  induction d with
  | zero =>
    intro k i hi hd hk
    obtain ⟨k, rfl⟩ : ∃ m, k = m + 1 := ⟨k - 1, by omega⟩
    rw [has_end n l k i (by omega), List.drop_of_length_le (by omega : l.length ≤ i)]
    simp
  | succ d ih =>
    intro k i hi hd hk
    obtain ⟨k, rfl⟩ : ∃ m, k = m + 1 := ⟨k - 1, by omega⟩
    have hl : i < l.length := by omega
    rw [has_step n l k i hl, List.drop_eq_getElem_cons hl]
    by_cases h : l[i] = n
    · rw [if_pos h]
      simp [h]
    · rw [if_neg h, wrap_small i l.length hl hn, ih k (i + 1) (by omega) (by omega) (by omega)]
      exact congrArg some (decide_eq_decide.2 ⟨fun e => List.mem_cons_of_mem _ e, fun e => (List.mem_cons.1 e).resolve_left (fun e2 => h e2.symm)⟩)
theorem has_f (n : Int) (l : List Int) (hn : l.length ≤ 1000000) (k : Nat) (hk : l.length < k) : runnelref1_Set_Has.f k l n = some (decide (n ∈ l)) := by
  have := has_loop n l hn l.length k 0 (by omega) (by omega) hk
  simpa [runnelref1_Set_Has.f] using this
theorem without_end (n : Int) (acc l : List Int) (k i : Nat) (h : ¬ i < l.length) : runnelref1_Set_Without.l0 (k + 1) n acc i l = some acc := by
  simp only [runnelref1_Set_Without.l0]
  have c1 : ¬ (i : Int) < (l.length : Int) := by omega
  rw [if_neg c1]
theorem without_step (n : Int) (acc l : List Int) (k i : Nat) (h : i < l.length) (ha : acc.length < 17592186044416) : runnelref1_Set_Without.l0 (k + 1) n acc i l = if l[i] = n then runnelref1_Set_Without.l0 k n acc (wrap64 ((i : Int) + 1)) l else runnelref1_Set_Without.l0 k n (acc ++ [l[i]]) (wrap64 ((i : Int) + 1)) l := by
  simp only [runnelref1_Set_Without.l0]
  have c1 : (i : Int) < (l.length : Int) := by omega
  have c2 : (0 : Int) ≤ (i : Int) := by omega
  rw [if_pos c1, if_pos c2, rd_at h, if_pos ha]
theorem without_loop (n : Int) (l : List Int) (hn : l.length ≤ 1000000) (d : Nat) : ∀ (k : Nat) (i : Nat) (acc : List Int), i ≤ l.length → l.length - i = d → d < k → acc.length ≤ i → runnelref1_Set_Without.l0 k n acc i l = some (acc ++ (l.drop i).filter (fun x => !decide (x = n))) := by
  induction d with
  | zero =>
    intro k i acc hi hd hk ha
    obtain ⟨k, rfl⟩ : ∃ m, k = m + 1 := ⟨k - 1, by omega⟩
    rw [without_end n acc l k i (by omega), List.drop_of_length_le (by omega : l.length ≤ i)]
    simp
  | succ d ih =>
    intro k i acc hi hd hk ha
    obtain ⟨k, rfl⟩ : ∃ m, k = m + 1 := ⟨k - 1, by omega⟩
    have hl : i < l.length := by omega
    rw [without_step n acc l k i hl (by omega), List.drop_eq_getElem_cons hl, wrap_small i l.length hl hn]
    by_cases h : l[i] = n
    · rw [if_pos h, ih k (i + 1) acc (by omega) (by omega) (by omega) (by omega), List.filter_cons]
      simp [h]
    · rw [if_neg h, ih k (i + 1) _ (by omega) (by omega) (by omega) (by rw [List.length_append, List.length_singleton]; omega), List.filter_cons]
      simp [h]
theorem without_f (n : Int) (l : List Int) (hn : l.length ≤ 1000000) : runnelref1_Set_Without.f (l.length + 1) l n = some (l.filter (fun x => !decide (x = n))) := by
  have := without_loop n l hn l.length (l.length + 1) 0 [] (by omega) (by omega) (by omega) (by simp)
  simpa [runnelref1_Set_Without.f] using this
theorem part_end (b : Bool) (acc l l2 : List Int) (k i : Nat) (h : ¬ i < l.length) : runnelref1_Set_part.l0 (k + 1) b acc i l l2 = some acc := by
  simp only [runnelref1_Set_part.l0]
  have c1 : ¬ (i : Int) < (l.length : Int) := by omega
  rw [if_neg c1]
theorem part_step (b : Bool) (acc l l2 : List Int) (k i : Nat) (h : i < l.length) (ha : acc.length < 17592186044416) (h2 : l2.length ≤ 1000000) (hk : l2.length < k) :
    runnelref1_Set_part.l0 (k + 1) b acc i l l2 = if (decide (l[i] ∈ l2) == b) = true then runnelref1_Set_part.l0 k b (acc ++ [l[i]]) (wrap64 ((i : Int) + 1)) l l2 else runnelref1_Set_part.l0 k b acc (wrap64 ((i : Int) + 1)) l l2 := by
  simp only [runnelref1_Set_part.l0]
  have c1 : (i : Int) < (l.length : Int) := by omega
  have c2 : (0 : Int) ≤ (i : Int) := by omega
  rw [if_pos c1, if_pos c2, rd_at h, has_f _ l2 h2 k hk, Option.bind_some, if_pos ha]
theorem part_loop (b : Bool) (l l2 : List Int) (hn : l.length ≤ 1000000) (h2 : l2.length ≤ 1000000) (d : Nat) : ∀ (k : Nat) (i : Nat) (acc : List Int), i ≤ l.length → l.length - i = d → d + l2.length < k → acc.length ≤ i → runnelref1_Set_part.l0 k b acc i l l2 = some (acc ++ (l.drop i).filter (fun x => decide (x ∈ l2) == b)) := by
  induction d with
  | zero =>
    intro k i acc hi hd hk ha
    obtain ⟨k, rfl⟩ : ∃ m, k = m + 1 := ⟨k - 1, by omega⟩
    rw [part_end b acc l l2 k i (by omega), List.drop_of_length_le (by omega : l.length ≤ i)]
    simp
  | succ d ih =>
    intro k i acc hi hd hk ha
    obtain ⟨k, rfl⟩ : ∃ m, k = m + 1 := ⟨k - 1, by omega⟩
    have hl : i < l.length := by omega
    rw [part_step b acc l l2 k i hl (by omega) h2 (by omega), List.drop_eq_getElem_cons hl, wrap_small i l.length hl hn, List.filter_cons]
    by_cases h : (decide (l[i] ∈ l2) == b) = true
    · rw [if_pos h, if_pos h, ih k (i + 1) _ (by omega) (by omega) (by omega) (by rw [List.length_append, List.length_singleton]; omega), List.append_assoc]
      rfl
    · rw [if_neg h, if_neg h, ih k (i + 1) acc (by omega) (by omega) (by omega) (by omega)]
theorem part_f (b : Bool) (l l2 : List Int) (hn : l.length ≤ 1000000) (h2 : l2.length ≤ 1000000) : runnelref1_Set_part.f (l.length + l2.length + 1) l l2 b = some (l.filter (fun x => decide (x ∈ l2) == b)) := by
  have := part_loop b l l2 hn h2 l.length (l.length + l2.length + 1) 0 [] (by omega) (by omega) (by omega) (by simp)
  simpa [runnelref1_Set_part.f] using this
theorem nxt_end (n : Int) (l : List Int) (k i : Nat) (h : ¬ i < l.length) : runnelref1_Set_Next.l0 (k + 1) n i l = some (-1) := by
  simp only [runnelref1_Set_Next.l0]
  have c1 : ¬ (i : Int) < (l.length : Int) := by omega
  rw [if_neg c1]
theorem nxt_step (n : Int) (l : List Int) (k i : Nat) (h : i < l.length) : runnelref1_Set_Next.l0 (k + 1) n i l = if n ≤ l[i] then some l[i] else runnelref1_Set_Next.l0 k n (wrap64 ((i : Int) + 1)) l := by
  simp only [runnelref1_Set_Next.l0]
  have c1 : (i : Int) < (l.length : Int) := by omega
  have c2 : (0 : Int) ≤ (i : Int) := by omega
  rw [if_pos c1, if_pos c2, rd_at h]
/-- The first that is not less stands at some place. -/
theorem nxt_loop (n : Int) (l : List Int) (hn : l.length ≤ 1000000) (d : Nat) : ∀ (k : Nat) (i : Nat), i ≤ l.length → l.length - i = d → d < k → (∀ t (h : t < l.length), t < i → l[t] < n) →
    ∃ j, runnelref1_Set_Next.l0 k n i l = some (l[j]?.getD (-1)) ∧ (∀ t (h : t < l.length), t < j → l[t] < n) ∧ (∀ h : j < l.length, n ≤ l[j]) := by
  induction d with
  | zero =>
    intro k i hi hd hk hlo
    obtain ⟨k, rfl⟩ : ∃ m, k = m + 1 := ⟨k - 1, by omega⟩
    exact ⟨l.length, by rw [nxt_end n l k i (by omega)]; simp, fun t h _ => hlo t h (by omega), fun h => by omega⟩
  | succ d ih =>
    intro k i hi hd hk hlo
    obtain ⟨k, rfl⟩ : ∃ m, k = m + 1 := ⟨k - 1, by omega⟩
    have hl : i < l.length := by omega
    rw [nxt_step n l k i hl, wrap_small i l.length hl hn]
    by_cases h : n ≤ l[i]
    · exact ⟨i, by rw [if_pos h, List.getElem?_eq_getElem hl]; rfl, fun t ht h1 => hlo t ht h1, fun _ => h⟩
    · rw [if_neg h]
      refine ih k (i + 1) (by omega) (by omega) (by omega) (fun t ht h1 => ?_)
      by_cases e : t = i
      · subst e; omega
      · exact hlo t ht (by omega)
theorem nxt_f (n : Int) (m : Nat → Bool) : runnelref1_Set_Next.f ((listF m).length + 1) (listF m) n = some (nextF m n) := by
  have h4 := listF_len m
  obtain ⟨j, h1, h2, h3⟩ := nxt_loop n (listF m) (by omega) (listF m).length ((listF m).length + 1) 0 (by omega) (by omega) (by omega) (fun t _ h => by omega)
  have e : nextF m n = atF m j := next_at m n j (fun i hi h => h2 i hi h) h3
  rw [e]
  simpa [runnelref1_Set_Next.f, atF] using h1
/-! ### Lists that rise -/
theorem rise_eq : ∀ (l k : List Int), l.Pairwise (· < ·) → k.Pairwise (· < ·) → (∀ x, x ∈ l ↔ x ∈ k) → l = k
  | [], [], _, _, _ => rfl
  | [], y :: k, _, _, h => absurd ((h y).2 (by simp)) (by simp)
  | x :: l, [], _, _, h => absurd ((h x).1 (by simp)) (by simp)
  | x :: l, y :: k, hl, hk, h => by
    rw [List.pairwise_cons] at hl hk
    have hxy : x = y := by
      have h1 := (h x).1 (by simp)
      have h2 := (h y).2 (by simp)
      rw [List.mem_cons] at h1 h2
      rcases h1 with h1 | h1
      · exact h1
      · rcases h2 with h2 | h2
        · exact h2.symm
        · have := hk.1 x h1
          have := hl.1 y h2
          omega
    subst hxy
    rw [rise_eq l k hl.2 hk.2 (fun z => ?_)]
    constructor
    · intro hz
      have := (h z).1 (List.mem_cons_of_mem _ hz)
      rw [List.mem_cons] at this
      rcases this with rfl | h3
      · exact absurd (hl.1 z hz) (by omega)
      · exact h3
    · intro hz
      have := (h z).2 (List.mem_cons_of_mem _ hz)
      rw [List.mem_cons] at this
      rcases this with rfl | h3
      · exact absurd (hk.1 z hz) (by omega)
      · exact h3
theorem list_of (l : List Int) (m : Nat → Bool) (hl : l.Pairwise (· < ·)) (h : ∀ x, x ∈ l ↔ ∃ j : Nat, j < 4096 ∧ m j = true ∧ x = j) : l = listF m :=
  rise_eq _ _ hl (listF_rise m) (fun x => (h x).trans (listF_mem m x).symm)
theorem has_list (m : Nat → Bool) (n : Int) : decide (n ∈ listF m) = hasI m n := by
  unfold hasI
  rw [Bool.eq_iff_iff, decide_eq_true_eq, listF_mem, Bool.and_eq_true, decide_eq_true_eq]
  constructor
  · rintro ⟨j, h1, h2, rfl⟩
    exact ⟨by omega, by simpa using h2⟩
  · rintro ⟨h1, h2⟩
    exact ⟨n.toNat, by omega, h2, by omega⟩
theorem out_list (m : Nat → Bool) (n : Int) : (listF m).filter (fun x => !decide (x = n)) = listF (outI m n) := by
  refine list_of _ _ ((listF_rise m).filter _) (fun x => ?_)
  rw [List.mem_filter, listF_mem]
  constructor
  · rintro ⟨⟨j, h1, h2, rfl⟩, h3⟩
    refine ⟨j, h1, ?_, rfl⟩
    unfold outI
    rw [h2]
    simpa using h3
  · rintro ⟨j, h1, h2, rfl⟩
    unfold outI at h2
    rw [Bool.and_eq_true] at h2
    exact ⟨⟨j, h1, h2.1, rfl⟩, by simpa using h2.2⟩
theorem mem_nat (m : Nat → Bool) (j : Nat) (h : j < 4096) : (j : Int) ∈ listF m ↔ m j = true := by
  rw [listF_mem]
  constructor
  · rintro ⟨i, h1, h2, h3⟩
    have : i = j := by omega
    rw [← this]; exact h2
  · intro h2; exact ⟨j, h, h2, rfl⟩
theorem and_list (a b : Nat → Bool) : (listF a).filter (fun x => decide (x ∈ listF b) == true) = listF (andF a b) := by
  refine list_of _ _ ((listF_rise a).filter _) (fun x => ?_)
  rw [List.mem_filter, listF_mem]
  constructor
  · rintro ⟨⟨j, h1, h2, rfl⟩, h3⟩
    refine ⟨j, h1, ?_, rfl⟩
    rw [beq_iff_eq, decide_eq_true_eq, mem_nat b j h1] at h3
    simp [andF, h2, h3]
  · rintro ⟨j, h1, h2, rfl⟩
    unfold andF at h2
    rw [Bool.and_eq_true] at h2
    refine ⟨⟨j, h1, h2.1, rfl⟩, ?_⟩
    rw [beq_iff_eq, decide_eq_true_eq, mem_nat b j h1]
    exact h2.2
theorem min_list (a b : Nat → Bool) : (listF a).filter (fun x => decide (x ∈ listF b) == false) = listF (minF a b) := by
  refine list_of _ _ ((listF_rise a).filter _) (fun x => ?_)
  rw [List.mem_filter, listF_mem]
  constructor
  · rintro ⟨⟨j, h1, h2, rfl⟩, h3⟩
    refine ⟨j, h1, ?_, rfl⟩
    rw [beq_iff_eq, decide_eq_false_iff_not, mem_nat b j h1] at h3
    simp [minF, h2, h3]
  · rintro ⟨j, h1, h2, rfl⟩
    unfold minF at h2
    rw [Bool.and_eq_true] at h2
    refine ⟨⟨j, h1, h2.1, rfl⟩, ?_⟩
    rw [beq_iff_eq, decide_eq_false_iff_not, mem_nat b j h1]
    simpa using h2.2
/-- A number more, at its place. -/
theorem with_list (m : Nat → Bool) (n : Int) (h0 : 0 ≤ n) (h1 : n < 4096) (k : Nat) (hk : k ≤ (listF m).length) (hlo : ∀ t (h : t < (listF m).length), t < k → (listF m)[t] < n) (hhi : ∀ h : k < (listF m).length, n < (listF m)[k]) :
    (listF m).take k ++ [n] ++ (listF m).drop k = listF (withI m n) := by
  have hr := listF_rise m
  have hd : ∀ x ∈ (listF m).drop k, n < x := fun x hx => by
    obtain ⟨t, ht, he⟩ := List.getElem_of_mem hx
    rw [List.length_drop] at ht
    rw [List.getElem_drop] at he
    have hkl : k < (listF m).length := by omega
    have h3 := hhi hkl
    by_cases e : t = 0
    · subst e
      rw [← he]; simpa using h3
    · have := listF_lt m (show k < k + t by omega) (show k + t < (listF m).length by omega)
      omega
  have ht : ∀ x ∈ (listF m).take k, x < n := fun x hx => by
    obtain ⟨t, ht, he⟩ := List.getElem_of_mem hx
    rw [List.length_take] at ht
    rw [List.getElem_take] at he
    have := hlo t (by omega) (by omega)
    omega
  refine list_of _ _ ?_ (fun x => ?_)
  · rw [List.append_assoc, List.pairwise_append]
    refine ⟨hr.sublist (List.take_sublist _ _), ?_, ?_⟩
    · rw [List.singleton_append, List.pairwise_cons]
      exact ⟨hd, hr.sublist (List.drop_sublist _ _)⟩
    · intro a ha b hb
      rw [List.singleton_append, List.mem_cons] at hb
      rcases hb with rfl | hb
      · exact ht a ha
      · have := ht a ha; have := hd b hb; omega
  · have hm : x ∈ (listF m).take k ++ [n] ++ (listF m).drop k ↔ x ∈ listF m ∨ x = n := by
      conv => rhs; rw [← List.take_append_drop k (listF m)]
      simp only [List.mem_append, List.mem_singleton]
      constructor
      · rintro ((h | h) | h)
        · exact .inl (.inl h)
        · exact .inr h
        · exact .inl (.inr h)
      · rintro ((h | h) | h)
        · exact .inl (.inl h)
        · exact .inr h
        · exact .inl (.inr h)
    rw [hm, listF_mem]
    constructor
    · rintro (⟨j, h2, h3, rfl⟩ | rfl)
      · exact ⟨j, h2, by simp [withI, h3], rfl⟩
      · exact ⟨x.toNat, by omega, by simp [withI]; right; omega, by omega⟩
    · rintro ⟨j, h2, h3, rfl⟩
      unfold withI at h3
      rw [Bool.or_eq_true, decide_eq_true_eq] at h3
      rcases h3 with h3 | h3
      · exact .inl ⟨j, h2, h3, rfl⟩
      · exact .inr h3
theorem with_out (m : Nat → Bool) (n : Int) (h : ¬ (0 ≤ n ∧ n < 4096)) : listF (withI m n) = listF m := by
  refine list_of _ _ (listF_rise _) (fun x => ?_)
  rw [listF_mem]
  constructor
  · rintro ⟨j, h1, h2, rfl⟩
    unfold withI at h2
    rw [Bool.or_eq_true, decide_eq_true_eq] at h2
    rcases h2 with h2 | h2
    · exact ⟨j, h1, h2, rfl⟩
    · omega
  · rintro ⟨j, h1, h2, rfl⟩
    exact ⟨j, h1, by simp [withI, h2], rfl⟩
theorem with_has (m : Nat → Bool) (n : Int) (h : n ∈ listF m) : listF (withI m n) = listF m := by
  refine list_of _ _ (listF_rise _) (fun x => ?_)
  rw [listF_mem]
  constructor
  · rintro ⟨j, h1, h2, rfl⟩
    unfold withI at h2
    rw [Bool.or_eq_true, decide_eq_true_eq] at h2
    rcases h2 with h2 | h2
    · exact ⟨j, h1, h2, rfl⟩
    · obtain ⟨i, h3, h4, h5⟩ := (listF_mem m n).1 h
      have : i = j := by omega
      exact ⟨j, h1, by rw [← this]; exact h4, rfl⟩
  · rintro ⟨j, h1, h2, rfl⟩
    exact ⟨j, h1, by simp [withI, h2], rfl⟩
end Go.Proofs.YtjcppnleoahaiaaDoor.P
