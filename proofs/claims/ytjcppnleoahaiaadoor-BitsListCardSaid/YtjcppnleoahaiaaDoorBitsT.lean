/- The text of a set: plain: items, their text, and that the text tells the set. -/
import Derived.Test.YtjcppnleoahaiaaDoorBitsK
import Derived.Lib.ItoaNum
namespace Go.Proofs.YtjcppnleoahaiaaDoor.P
open Go.RowKit
/-- The last of a run from n on. -/
def runEnd (m : Nat → Bool) : Nat → Nat → Nat
  | 0, n => n
  | f + 1, n => if n + 1 < 4096 ∧ m (n + 1) = true then runEnd m f (n + 1) else n
theorem runEnd_ge (m : Nat → Bool) : ∀ f n, n ≤ runEnd m f n
  | 0, n => Nat.le_refl _
  | f + 1, n => by
    unfold runEnd
    split
    · have := runEnd_ge m f (n + 1); omega
    · exact Nat.le_refl _
theorem runEnd_lt (m : Nat → Bool) : ∀ f n, n < 4096 → runEnd m f n < 4096
  | 0, n, h => h
  | f + 1, n, h => by
    unfold runEnd
    split
    · rename_i h1; exact runEnd_lt m f (n + 1) h1.1
    · exact h
theorem runEnd_all (m : Nat → Bool) : ∀ f n, ∀ i, n < i → i ≤ runEnd m f n → m i = true
  | 0, n, i, h1, h2 => by unfold runEnd at h2; omega
  | f + 1, n, i, h1, h2 => by
    unfold runEnd at h2
    split at h2
    · rename_i h3
      by_cases e : i = n + 1
      · rw [e]; exact h3.2
      · exact runEnd_all m f (n + 1) i (by omega) h2
    · omega
theorem runEnd_fuel (m : Nat → Bool) : ∀ f f' n, 4096 ≤ f + n → 4096 ≤ f' + n → runEnd m f n = runEnd m f' n
  | 0, 0, n, _, _ => rfl
  | 0, f' + 1, n, h, _ => by
    unfold runEnd
    rw [if_neg (by omega)]
  | f + 1, 0, n, _, h => by
    unfold runEnd
    rw [if_neg (by omega)]
  | f + 1, f' + 1, n, h, h' => by
    unfold runEnd
    rw [runEnd_fuel m f f' (n + 1) (by omega) (by omega)]
def lastF (m : Nat → Bool) (n : Nat) : Nat := runEnd m 4096 n
theorem lastF_step (m : Nat → Bool) (n : Nat) : lastF m n = if n + 1 < 4096 ∧ m (n + 1) = true then lastF m (n + 1) else n := by
  unfold lastF
  conv => lhs; unfold runEnd
  rw [runEnd_fuel m 4095 4096 (n + 1) (by omega) (by omega)]
/-- The items of a set's text from v on: a number, or a run of three or more. -/
def items (m : Nat → Bool) : Nat → Nat → List (Nat × Nat)
  | 0, _ => []
  | f + 1, v => if nextF m v < 0 then [] else
      if (nextF m v).toNat + 2 ≤ lastF m (nextF m v).toNat then ((nextF m v).toNat, lastF m (nextF m v).toNat) :: items m f (lastF m (nextF m v).toNat + 1)
      else ((nextF m v).toNat, (nextF m v).toNat) :: items m f ((nextF m v).toNat + 1)
theorem items_fuel (m : Nat → Bool) : ∀ f f' v, 4097 ≤ f + v → 4097 ≤ f' + v → items m f v = items m f' v
  | 0, 0, v, _, _ => rfl
  | 0, f' + 1, v, h, _ => by
    unfold items
    rw [if_pos]
    rcases next_cases m v with ⟨he, _⟩ | ⟨j, he, hj, hv, _⟩
    · omega
    · omega
  | f + 1, 0, v, _, h => by
    unfold items
    rw [if_pos]
    rcases next_cases m v with ⟨he, _⟩ | ⟨j, he, hj, hv, _⟩
    · omega
    · omega
  | f + 1, f' + 1, v, h, h' => by
    unfold items
    rcases next_cases m v with ⟨he, _⟩ | ⟨j, he, hj, hv, _⟩
    · rw [if_pos (by omega), if_pos (by omega)]
    · rw [he, Int.toNat_natCast, if_neg (show ¬ (j : Int) < 0 by omega), if_neg (show ¬ (j : Int) < 0 by omega)]
      have hge := runEnd_ge m 4096 j
      have hge' : j ≤ lastF m j := hge
      rw [items_fuel m f f' (lastF m j + 1) (by omega) (by omega), items_fuel m f f' (j + 1) (by omega) (by omega)]
def itemsF (m : Nat → Bool) (v : Nat) : List (Nat × Nat) := items m 4097 v
theorem itemsF_none (m : Nat → Bool) (v : Nat) (h : nextF m v < 0) : itemsF m v = [] := by
  unfold itemsF items
  rw [if_pos h]
theorem itemsF_run (m : Nat → Bool) (v j : Nat) (h : nextF m v = j) (h2 : j + 2 ≤ lastF m j) : itemsF m v = (j, lastF m j) :: itemsF m (lastF m j + 1) := by
  unfold itemsF
  conv => lhs; unfold items
  rw [h, Int.toNat_natCast, if_neg (by omega), if_pos h2, items_fuel m 4096 4097 _ (by omega) (by omega)]
theorem itemsF_one (m : Nat → Bool) (v j : Nat) (h : nextF m v = j) (h2 : ¬ j + 2 ≤ lastF m j) : itemsF m v = (j, j) :: itemsF m (j + 1) := by
  unfold itemsF
  conv => lhs; unfold items
  rw [h, Int.toNat_natCast, if_neg (by omega), if_neg h2, items_fuel m 4096 4097 _ (by omega) (by omega)]
def itemT (x : Nat × Nat) : List UInt8 := Lib.itoa x.1 ++ (if x.1 = x.2 then [] else 45 :: Lib.itoa x.2)
def addT (out : List UInt8) (x : Nat × Nat) : List UInt8 := (if out = [] then [] else out ++ [44]) ++ itemT x
def textF (m : Nat → Bool) : List UInt8 := (itemsF m 0).foldl addT []
/-! ### The text tells the items -/
theorem decDigits_digit (u : Nat) : ∀ c ∈ Lib.decDigits u, 48 ≤ c.toNat ∧ c.toNat ≤ 57 := by
  induction u using Nat.strongRecOn with
  | _ u ih =>
    intro c hc
    rw [Lib.decDigits] at hc
    split at hc
    · rename_i h
      simp only [List.mem_singleton] at hc
      subst hc
      rw [UInt8.toNat_ofNat']
      omega
    · rename_i h
      rw [List.mem_append] at hc
      rcases hc with hc | hc
      · exact ih (u / 10) (by omega) c hc
      · simp only [List.mem_singleton] at hc
        subst hc
        rw [UInt8.toNat_ofNat']
        omega
theorem decDigits_ne (u : Nat) : Lib.decDigits u ≠ [] := by
  rw [Lib.decDigits]
  split <;> simp
theorem ofNat_inj {a b : Nat} (ha : a < 256) (hb : b < 256) (h : UInt8.ofNat a = UInt8.ofNat b) : a = b := by
  have := congrArg UInt8.toNat h
  rw [UInt8.toNat_ofNat', UInt8.toNat_ofNat'] at this
  omega
theorem decDigits_inj : ∀ (u v : Nat), Lib.decDigits u = Lib.decDigits v → u = v := by
  intro u
  induction u using Nat.strongRecOn with
  | _ u ih =>
    intro v h
    have key : ∀ x : Nat, 10 ≤ x → Lib.decDigits x = Lib.decDigits (x / 10) ++ [UInt8.ofNat (48 + x % 10)] := fun x hx => by
      rw [Lib.decDigits, dif_neg (by omega)]
    have low : ∀ x : Nat, x < 10 → Lib.decDigits x = [UInt8.ofNat (48 + x)] := fun x hx => by
      rw [Lib.decDigits, dif_pos hx]
    by_cases hu : u < 10
    · by_cases hv : v < 10
      · rw [low u hu, low v hv] at h
        have := ofNat_inj (by omega) (by omega) (List.cons.inj h).1
        omega
      · rw [low u hu, key v (by omega)] at h
        have h6 := congrArg List.length h
        have h5 : 0 < (Lib.decDigits (v / 10)).length := List.length_pos_iff.2 (decDigits_ne (v / 10))
        rw [List.length_append, List.length_singleton, List.length_singleton] at h6
        omega
    · by_cases hv : v < 10
      · rw [low v hv, key u (by omega)] at h
        have h6 := congrArg List.length h
        have h5 : 0 < (Lib.decDigits (u / 10)).length := List.length_pos_iff.2 (decDigits_ne (u / 10))
        rw [List.length_append, List.length_singleton, List.length_singleton] at h6
        omega
      · rw [key u (by omega), key v (by omega)] at h
        obtain ⟨h1, h2⟩ := List.append_inj' h rfl
        have h3 := ih (u / 10) (by omega) (v / 10) h1
        have h4 := ofNat_inj (by omega) (by omega) (List.cons.inj h2).1
        omega
theorem itoa_nat (n : Nat) : Lib.itoa (n : Int) = Lib.decDigits n := by
  unfold Lib.itoa
  rw [if_neg (by omega), Int.toNat_natCast]
/-- A row of signs without c, then c: where it ends. -/
theorem split_at (c : UInt8) : ∀ (a b x y : List UInt8), c ∉ a → c ∉ b → a ++ c :: x = b ++ c :: y → a = b ∧ x = y
  | [], [], x, y, _, _, h => ⟨rfl, (List.cons.inj h).2⟩
  | [], d :: b, x, y, _, hb, h => by
    have := (List.cons.inj h).1
    subst this
    simp at hb
  | d :: a, [], x, y, ha, _, h => by
    have := (List.cons.inj h).1
    subst this
    simp at ha
  | d :: a, e :: b, x, y, ha, hb, h => by
    obtain ⟨h1, h2⟩ := List.cons.inj h
    obtain ⟨h3, h4⟩ := split_at c a b x y (fun hh => ha (List.mem_cons_of_mem _ hh)) (fun hh => hb (List.mem_cons_of_mem _ hh)) h2
    exact ⟨by rw [h1, h3], h4⟩
theorem no_sign (n : Nat) (c : UInt8) (hc : c.toNat < 48) : c ∉ Lib.itoa (n : Int) := by
  rw [itoa_nat]
  intro h
  have := decDigits_digit n c h
  omega
theorem itoa_inj (a b : Nat) (h : Lib.itoa (a : Int) = Lib.itoa (b : Int)) : a = b := by
  rw [itoa_nat, itoa_nat] at h
  exact decDigits_inj _ _ h
theorem itemT_inj (x y : Nat × Nat) (h : itemT x = itemT y) : x = y := by
  obtain ⟨a, b⟩ := x
  obtain ⟨c, d⟩ := y
  unfold itemT at h
  simp only at h
  by_cases e1 : a = b
  · by_cases e2 : c = d
    · rw [if_pos e1, if_pos e2, List.append_nil, List.append_nil] at h
      have := itoa_inj _ _ h
      simp; omega
    · rw [if_pos e1, if_neg e2, List.append_nil] at h
      exact absurd (h ▸ List.mem_append_right _ (List.mem_cons_self) : (45 : UInt8) ∈ Lib.itoa (a : Int)) (no_sign a 45 (by decide))
  · by_cases e2 : c = d
    · rw [if_neg e1, if_pos e2, List.append_nil] at h
      exact absurd (h ▸ List.mem_append_right _ (List.mem_cons_self) : (45 : UInt8) ∈ Lib.itoa (c : Int)) (no_sign c 45 (by decide))
    · rw [if_neg e1, if_neg e2] at h
      obtain ⟨h1, h2⟩ := split_at 45 _ _ _ _ (no_sign a 45 (by decide)) (no_sign c 45 (by decide)) h
      have := itoa_inj _ _ h1
      have := itoa_inj _ _ h2
      simp; omega
theorem itemT_comma (x : Nat × Nat) : (44 : UInt8) ∉ itemT x := by
  unfold itemT
  rw [List.mem_append]
  rintro (h | h)
  · exact no_sign _ 44 (by decide) h
  · split at h
    · simp at h
    · rw [List.mem_cons] at h
      rcases h with h | h
      · exact absurd h (by decide)
      · exact no_sign _ 44 (by decide) h
theorem itemT_ne (x : Nat × Nat) : itemT x ≠ [] := by
  unfold itemT
  rw [itoa_nat]
  intro h
  exact decDigits_ne _ (List.append_eq_nil_iff.1 h).1
/-- The items' text, from the front. -/
def joinT : List (Nat × Nat) → List UInt8
  | [] => []
  | x :: l => itemT x ++ (if l = [] then [] else 44 :: joinT l)
theorem addT_ne (out : List UInt8) (x : Nat × Nat) : addT out x ≠ [] := by
  unfold addT
  intro h
  exact itemT_ne x (List.append_eq_nil_iff.1 h).2
theorem fold_join : ∀ (l : List (Nat × Nat)) (out : List UInt8), out ≠ [] → l.foldl addT out = out ++ (if l = [] then [] else 44 :: joinT l)
  | [], out, _ => by simp
  | x :: l, out, h => by
    rw [List.foldl_cons, fold_join l _ (addT_ne _ _)]
    simp only [addT, if_neg h, joinT, List.cons_ne_nil, if_false]
    simp
theorem textF_join (m : Nat → Bool) : textF m = joinT (itemsF m 0) := by
  unfold textF
  cases h : itemsF m 0 with
  | nil => rfl
  | cons x l =>
    rw [List.foldl_cons, fold_join l _ (addT_ne _ _)]
    simp [addT, joinT]
theorem joinT_ne (x : Nat × Nat) (l : List (Nat × Nat)) : joinT (x :: l) ≠ [] := by
  unfold joinT
  intro h
  exact itemT_ne x (List.append_eq_nil_iff.1 h).1
theorem joinT_inj : ∀ (l k : List (Nat × Nat)), joinT l = joinT k → l = k
  | [], [], _ => rfl
  | [], y :: k, h => absurd h.symm (joinT_ne y k)
  | x :: l, [], h => absurd h (joinT_ne x l)
  | x :: l, y :: k, h => by
    simp only [joinT] at h
    by_cases e1 : l = []
    · by_cases e2 : k = []
      · rw [if_pos e1, if_pos e2, List.append_nil, List.append_nil] at h
        rw [itemT_inj x y h, e1, e2]
      · rw [if_pos e1, if_neg e2, List.append_nil] at h
        exact absurd (h ▸ List.mem_append_right _ (List.mem_cons_self) : (44 : UInt8) ∈ itemT x) (itemT_comma x)
    · by_cases e2 : k = []
      · rw [if_neg e1, if_pos e2, List.append_nil] at h
        exact absurd (h ▸ List.mem_append_right _ (List.mem_cons_self) : (44 : UInt8) ∈ itemT y) (itemT_comma y)
      · rw [if_neg e1, if_neg e2] at h
        obtain ⟨h1, h2⟩ := split_at 44 _ _ _ _ (itemT_comma x) (itemT_comma y) h
        rw [itemT_inj x y h1, joinT_inj l k h2]
/-- The items tell the set. -/
def covers (l : List (Nat × Nat)) (i : Nat) : Bool := l.any fun x => decide (x.1 ≤ i ∧ i ≤ x.2)
theorem items_cover (m : Nat → Bool) : ∀ f v, 4097 ≤ f + v → ∀ i, v ≤ i → i < 4096 → covers (items m f v) i = m i
  | 0, v, h, i, h1, h2 => by omega
  | f + 1, v, h, i, h1, h2 => by
    unfold items
    rcases next_cases m v with ⟨he, hno⟩ | ⟨j, he, hj, hv, hm, hno⟩
    · rw [if_pos (by omega)]
      simp [covers, hno i (by omega) h2]
    · rw [he, Int.toNat_natCast, if_neg (by omega)]
      have hge : j ≤ lastF m j := runEnd_ge m 4096 j
      have hall := runEnd_all m 4096 j
      by_cases h3 : j + 2 ≤ lastF m j
      · rw [if_pos h3]
        simp only [covers, List.any_cons]
        by_cases hij : i < j
        · have hrest : covers (items m f (lastF m j + 1)) i = false := by
            have := items_lo m f (lastF m j + 1)
            simp only [covers, List.any_eq_false]
            intro x hx
            have := this x hx
            simp; omega
          have h4 : ((items m f (lastF m j + 1)).any fun x => decide (x.1 ≤ i ∧ i ≤ x.2)) = false := hrest
          rw [h4, hno i (by omega) (by omega)]
          simp; omega
        · by_cases hil : i ≤ lastF m j
          · have hmi : m i = true := by
              by_cases e : i = j
              · rw [e]; exact hm
              · exact hall i (by omega) hil
            rw [hmi]
            simp; left; omega
          · have := items_cover m f (lastF m j + 1) (by omega) i (by omega) h2
            simp only [covers] at this
            rw [this]
            have e : decide (j ≤ i ∧ i ≤ lastF m j) = false := by simp; omega
            rw [e, Bool.false_or]
      · rw [if_neg h3]
        simp only [covers, List.any_cons]
        by_cases hij : i < j
        · have h4 : ((items m f (j + 1)).any fun x => decide (x.1 ≤ i ∧ i ≤ x.2)) = false := by
            have := items_lo m f (j + 1)
            simp only [List.any_eq_false]
            intro x hx
            have := this x hx
            simp; omega
          rw [h4, hno i (by omega) (by omega)]
          simp; omega
        · by_cases e : i = j
          · rw [e, hm]; simp
          · have := items_cover m f (j + 1) (by omega) i (by omega) h2
            simp only [covers] at this
            rw [this]
            have e : decide (j ≤ i ∧ i ≤ j) = false := by simp; omega
            rw [e, Bool.false_or]
where
  items_lo (m : Nat → Bool) : ∀ f v, ∀ x ∈ items m f v, v ≤ x.1
  | 0, v, x, hx => by simp [items] at hx
  | f + 1, v, x, hx => by
    unfold items at hx
    rcases next_cases m v with ⟨he, hno⟩ | ⟨j, he, hj, hv, hm, hno⟩
    · rw [if_pos (by omega)] at hx
      simp at hx
    · rw [he, Int.toNat_natCast, if_neg (by omega)] at hx
      have hge : j ≤ lastF m j := runEnd_ge m 4096 j
      by_cases h3 : j + 2 ≤ lastF m j
      · rw [if_pos h3, List.mem_cons] at hx
        rcases hx with rfl | hx
        · simp; omega
        · have := items_lo m f _ x hx
          omega
      · rw [if_neg h3, List.mem_cons] at hx
        rcases hx with rfl | hx
        · simp; omega
        · have := items_lo m f _ x hx
          omega
theorem textF_inj (m m' : Nat → Bool) : textF m = textF m' ↔ ∀ n, n < 4096 → m n = m' n := by
  rw [textF_join, textF_join]
  constructor
  · intro h n hn
    have e := joinT_inj _ _ h
    have h1 := items_cover m 4097 0 (by omega) n (by omega) hn
    have h2 := items_cover m' 4097 0 (by omega) n (by omega) hn
    unfold itemsF at e
    rw [← h1, ← h2, e]
  · intro h
    have hnx : ∀ v, nextF m v = nextF m' v := fun v => by
      rcases next_cases m v with ⟨he, hno⟩ | ⟨j, he, hj, hv, hm, hno⟩
      · rw [he, next_none m' v (fun i h1 h2 => by rw [← h i h2]; exact hno i h1 h2)]
      · rw [he, next_some m' v j hj (by rw [← h j hj]; exact hm) hv (fun i h1 h2 => by rw [← h i (by omega)]; exact hno i h1 h2)]
    have hr : ∀ f n, runEnd m f n = runEnd m' f n := by
      intro f
      induction f with
      | zero => intro n; rfl
      | succ f ih =>
        intro n
        unfold runEnd
        by_cases h1 : n + 1 < 4096
        · rw [ih, h (n + 1) h1]
        · rw [if_neg (by omega), if_neg (by omega)]
    have hi : ∀ f v, items m f v = items m' f v := by
      intro f
      induction f with
      | zero => intro v; rfl
      | succ f ih =>
        intro v
        unfold items lastF
        rw [hnx, hr, ih, ih]
    unfold itemsF
    rw [hi]
end Go.Proofs.YtjcppnleoahaiaaDoor.P
