/- The next number of a set: plain. bits.Set: Next. The list of a set: plain. bits.Set: List. bits.Set: Within. The text of a set: plain: items, their text, and that the text tells the set. bits.Set: Text. -/
import Derived.Test.YtjcppnleoahaiaaDoorBitsH
import Derived.Lib.TrailingZeros
import Derived.Test.YtjcppnleoahaiaaDoorShelf
import Derived.BigQuiet
import Derived.RegionTactic
import Derived.BigRegion
import Derived.Lib.ItoaNum
import Derived.WalkSmall
namespace Go.Proofs.YtjcppnleoahaiaaDoor.P
open Go.RowKit
theorem shr_bit (m : Nat → Bool) (v t : Nat) : (word m (v / 64) / 2 ^ (v % 64)).testBit t = (decide (v % 64 + t < 64) && m (v + t)) := by
  rw [Nat.testBit_div_two_pow, word_bit]
  have e : 64 * (v / 64) + (t + v % 64) = v + t := by omega
  rw [e, Nat.add_comm t]
theorem ctz_bit (x : Nat) (h0 : x ≠ 0) (h : x < 18446744073709551616) : x.testBit (Lib.ctz 64 x) = true ∧ (∀ t, t < Lib.ctz 64 x → x.testBit t = false) ∧ Lib.ctz 64 x < 64 := by
  obtain ⟨q, hq, hc⟩ := Lib.ctzFrom_spec 64 x (by omega) h
  have e : Lib.ctz 64 x = Lib.ctzFrom 64 x := by simp [Lib.ctz, h0]
  rw [e]
  generalize Lib.ctzFrom 64 x = c at *
  refine ⟨?_, fun t ht => ?_, hc⟩
  · rw [hq, Nat.testBit_two_pow_mul]
    simp
  · rw [hq, Nat.testBit_two_pow_mul]
    simp; omega
/-- The least number of a set from v on. -/
def nextF (m : Nat → Bool) (v : Int) : Int :=
  match (List.range 4096).find? (fun (j : Nat) => decide (v ≤ (j : Int)) && m j) with
  | some j => (j : Int)
  | none => -1
theorem next_some (m : Nat → Bool) (v : Int) (j : Nat) (hj : j < 4096) (hm : m j = true) (hv : v ≤ j) (h : ∀ i : Nat, v ≤ i → i < j → m i = false) : nextF m v = j := by
  have e : (List.range 4096).find? (fun (j : Nat) => decide (v ≤ (j : Int)) && m j) = some j := by
    rw [List.find?_range_eq_some]
    refine ⟨by simp [hv, hm], by simpa using hj, fun i hi => ?_⟩
    by_cases hv2 : v ≤ (i : Int)
    · simp [h i hv2 hi]
    · simp [hv2]
  unfold nextF
  rw [e]
theorem next_none (m : Nat → Bool) (v : Int) (h : ∀ i : Nat, v ≤ i → i < 4096 → m i = false) : nextF m v = -1 := by
  have e : (List.range 4096).find? (fun (j : Nat) => decide (v ≤ (j : Int)) && m j) = none := by
    rw [List.find?_eq_none]
    intro i hi
    rw [List.mem_range] at hi
    by_cases hv2 : v ≤ (i : Int)
    · simp [h i hv2 hi]
    · simp [hv2]
  unfold nextF
  rw [e]
/-- A round of the loop: nothing from v0 to v. -/
theorem next_hit (m : Nat → Bool) (v0 : Int) (v x : Nat) (hx : x = word m (v / 64) / 2 ^ (v % 64)) (h0 : x ≠ 0) (hv : v < 4096) (hle : v0 ≤ v) (h : ∀ i : Nat, v0 ≤ i → i < v → m i = false) : nextF m v0 = (v : Int) + (Lib.ctz 64 x : Nat) := by
  have hl : x < 18446744073709551616 := by rw [hx]; exact Nat.lt_of_le_of_lt (Nat.div_le_self _ _) (word_lt _ _)
  obtain ⟨h1, h2, h3⟩ := ctz_bit x h0 hl
  generalize Lib.ctz 64 x = c at *
  rw [hx, shr_bit] at h1
  simp only [Bool.and_eq_true, decide_eq_true_eq] at h1
  rw [next_some m v0 (v + c) (by omega) h1.2 (by omega) (fun i hi hi2 => ?_)]
  · omega
  · by_cases hiv : i < v
    · exact h i hi hiv
    · have h4 := h2 (i - v) (by omega)
      rw [hx, shr_bit, show v + (i - v) = i by omega] at h4
      have h5 : v % 64 + (i - v) < 64 := by omega
      simpa [h5] using h4
theorem next_miss (m : Nat → Bool) (v0 : Int) (v : Nat) (hx : word m (v / 64) / 2 ^ (v % 64) = 0) (h : ∀ i : Nat, v0 ≤ i → i < v → m i = false) : ∀ i : Nat, v0 ≤ i → i < (v / 64 + 1) * 64 → m i = false := by
  intro i hi hi2
  by_cases hiv : i < v
  · exact h i hi hiv
  · have h4 := shr_bit m v (i - v)
    rw [hx, show v + (i - v) = i by omega] at h4
    have h5 : v % 64 + (i - v) < 64 := by omega
    simpa [h5] using h4.symm
end Go.Proofs.YtjcppnleoahaiaaDoor.P
namespace Go.Proofs.YtjcppnleoahaiaaDoor.P
open Go.RowKit Go.Proofs.YtjcppnleoahaiaaDoorW.PrintWords Go.Proofs.YtjcppnleoahaiaaDoorW.PrintLast Go.Proofs.YtjcppnleoahaiaaDoorW.PrintMore
attribute [local go_sem] max2_int min2_int max_two min_two
set_option linter.unusedVariables false
set_option linter.unusedSimpArgs false
theorem tab_below {n : Nat} {w w' : World} (h : TabAt 0 Lib.deBruijn64tab w) (hb : Below n w w') (h0 : 0 < n) : TabAt 0 Lib.deBruijn64tab w' := fun j hj => (hb.cell (p := ⟨0, j, none⟩) h0).trans (h j hj)
/-- What stands at a round's head. -/
def NextRel (w : World) (cs : Array Value) (m : Nat → Bool) (v0 : Int) (i : Value) (wr : World) : Prop := ∃ v : Nat, v ≤ 9223372036854775807 ∧ i = .int .i64 v ∧ v0 ≤ v ∧ (∀ i : Nat, v0 ≤ i → i < v → i < 4096 → m i = false) ∧ wr.heap[w.heap.size]? = some (.cells cs 27 (0, 0)) ∧ Below w.heap.size w wr
set_option maxRecDepth 100000 in
set_option maxHeartbeats 4000000 in
theorem next_nat (m : Nat → Bool) (n : Nat) (hn : (n : Int) ≤ 9223372036854775807) (w : World) (hT : TabAt 0 Lib.deBruijn64tab w) (h0 : 0 < w.heap.size) :
    Calls Tryd.prog 19 #[.agg (cells m), .int .i64 n] w fun e w' => e = .returned (.int .i64 (nextF m n)) ∧ Below w.heap.size w w' := by
  have hsz := cells_size m
  obtain ⟨cs, hcs⟩ : ∃ cs, cs = cells m := ⟨_, rfl⟩
  rw [← hcs] at hsz ⊢
  have HCS := Lib.hid hcs
  have HT := Lib.hid hT
  have HZ := Lib.hid h0
  clear hcs hT h0
  go_enter Tryd.func19, Tryd.ntmps19
  go_wp2_with fail
  obtain ⟨w2, hw2⟩ : ∃ W_, W_ = w.alloc (.cells cs 27) := ⟨_, rfl⟩
  rw [← hw2]
  have HK1 : Hid (w2.heap[w.heap.size]? = some (.cells cs 27 (0, 0))) := Lib.hid (by rw [hw2]; exact heap_alloc_new w _)
  have HB : Hid (Below w.heap.size w w2) := Lib.hid (by rw [hw2]; exact below_alloc (Below.refl _ _) _)
  clear hw2
  go_loopw [1] (fun i wr => NextRel w cs m n i wr) (fun i _ => 4096 - (intOf i).toNat)
  case atStart => exact ⟨n, by omega, by norm_cast, by omega, fun i h1 h2 => by omega, HK1.out, HB.out⟩
  case round =>
    obtain ⟨v, hv, rfl, hle, hno, hk, hb⟩ := hrel
    by_cases hlt : v < 4096
    · have hq : v / 64 < 64 := by omega
      have hat := cells_at m hq
      rw [← HCS.out] at hat
      have hcell : wr.cell? ⟨w.heap.size, v / 64, none⟩ = some (.int .u64 (word m (v / 64))) := (blk_cell hk (v / 64)).trans hat
      obtain ⟨W, hW⟩ : ∃ W, W = word m (v / 64) := ⟨_, rfl⟩
      have hWl := word_lt m (v / 64)
      rw [← hW] at hcell hWl
      obtain ⟨x, hx⟩ : ∃ x, x = W / 2 ^ (v % 64) := ⟨_, rfl⟩
      have hxe : (W : Int) / 2 ^ (v % 64) = (x : Int) := by rw [hx]; norm_cast
      have HX := Lib.hid hx
      have HW := Lib.hid hW
      have HNO := Lib.hid hno
      have HK := Lib.hid hk
      have HBb := Lib.hid hb
      have hxl : x < 18446744073709551616 := by rw [hx]; exact Nat.lt_of_le_of_lt (Nat.div_le_self _ _) hWl
      have j0 : (0 : Int) ≤ (v : Int) / 64 := by omega
      have j1 : (v : Int) / 64 < 64 := by omega
      clear hx hW hno hk hb hat
      by_cases hx0 : x = 0
      · subst hx0
        go_wp2_with fail
        exact ⟨⟨(v / 64 + 1) * 64, by omega, by norm_cast, by omega, fun i h1 h2 h3 => next_miss m _ v (by rw [← HW.out]; exact HX.out.symm) (fun i a b => HNO.out i a b (by omega)) i h1 h2, HK.out, HBb.out⟩, by simp [intOf]; omega⟩
      · have hx1 : ((x : Int) != 0) = true := by simp; omega
        have hc := (ctz_bit x hx0 hxl).2.2
        have hhit := next_hit m n v x (by rw [HX.out, HW.out]) hx0 hlt hle (fun i a b => HNO.out i a b (by omega))
        have htz := Tryd.bits_TrailingZeros64 x hxl wr (fun _ => tab_below HT.out HBb.out HZ.out)
        obtain ⟨c, hcc⟩ : ∃ c, c = Lib.ctz 64 x := ⟨_, rfl⟩
        rw [← hcc] at hc hhit htz
        have HH := Lib.hid hhit
        have HTZ := Lib.hid htz
        clear hcc hhit htz
        go_wp2_with fail
        refine HTZ.out.mono ?_
        rintro e w3 ⟨rfl, rfl⟩
        go_wp2_with fail
        go_ret
        exact ⟨by rw [HH.out]; rfl, HBb.out⟩
    · have hnn := next_none m n (fun i a b => hno i a (by omega) b)
      have HH := Lib.hid hnn
      have HBb := Lib.hid hb
      clear hnn hb hno hk
      go_wp2_with fail
      go_ret
      exact ⟨by rw [HH.out]; rfl, HBb.out⟩
set_option maxRecDepth 100000 in
set_option maxHeartbeats 4000000 in
theorem next_neg (m : Nat → Bool) (n : Int) (hn : n < 0) (w : World) (hT : TabAt 0 Lib.deBruijn64tab w) (h0 : 0 < w.heap.size) :
    Calls Tryd.prog 19 #[.agg (cells m), .int .i64 n] w fun e w' => e = .returned (.int .i64 (nextF m n)) ∧ Below w.heap.size w w' := by
  have hsz := cells_size m
  obtain ⟨cs, hcs⟩ : ∃ cs, cs = cells m := ⟨_, rfl⟩
  rw [← hcs] at hsz ⊢
  have HCS := Lib.hid hcs
  have HT := Lib.hid hT
  have HZ := Lib.hid h0
  clear hcs hT h0
  go_enter Tryd.func19, Tryd.ntmps19
  go_wp2_with fail
  obtain ⟨w2, hw2⟩ : ∃ W_, W_ = w.alloc (.cells cs 27) := ⟨_, rfl⟩
  rw [← hw2]
  have HK1 : Hid (w2.heap[w.heap.size]? = some (.cells cs 27 (0, 0))) := Lib.hid (by rw [hw2]; exact heap_alloc_new w _)
  have HB : Hid (Below w.heap.size w w2) := Lib.hid (by rw [hw2]; exact below_alloc (Below.refl _ _) _)
  clear hw2
  go_loopw [1] (fun i wr => NextRel w cs m n i wr) (fun i _ => 4096 - (intOf i).toNat)
  case atStart => exact ⟨0, by omega, by norm_cast, by omega, fun i h1 h2 => by omega, HK1.out, HB.out⟩
  case round =>
    obtain ⟨v, hv, rfl, hle, hno, hk, hb⟩ := hrel
    by_cases hlt : v < 4096
    · have hq : v / 64 < 64 := by omega
      have hat := cells_at m hq
      rw [← HCS.out] at hat
      have hcell : wr.cell? ⟨w.heap.size, v / 64, none⟩ = some (.int .u64 (word m (v / 64))) := (blk_cell hk (v / 64)).trans hat
      obtain ⟨W, hW⟩ : ∃ W, W = word m (v / 64) := ⟨_, rfl⟩
      have hWl := word_lt m (v / 64)
      rw [← hW] at hcell hWl
      obtain ⟨x, hx⟩ : ∃ x, x = W / 2 ^ (v % 64) := ⟨_, rfl⟩
      have hxe : (W : Int) / 2 ^ (v % 64) = (x : Int) := by rw [hx]; norm_cast
      have HX := Lib.hid hx
      have HW := Lib.hid hW
      have HNO := Lib.hid hno
      have HK := Lib.hid hk
      have HBb := Lib.hid hb
      have hxl : x < 18446744073709551616 := by rw [hx]; exact Nat.lt_of_le_of_lt (Nat.div_le_self _ _) hWl
      have j0 : (0 : Int) ≤ (v : Int) / 64 := by omega
      have j1 : (v : Int) / 64 < 64 := by omega
      clear hx hW hno hk hb hat
      by_cases hx0 : x = 0
      · subst hx0
        go_wp2_with fail
        exact ⟨⟨(v / 64 + 1) * 64, by omega, by norm_cast, by omega, fun i h1 h2 h3 => next_miss m _ v (by rw [← HW.out]; exact HX.out.symm) (fun i a b => HNO.out i a b (by omega)) i h1 h2, HK.out, HBb.out⟩, by simp [intOf]; omega⟩
      · have hx1 : ((x : Int) != 0) = true := by simp; omega
        have hc := (ctz_bit x hx0 hxl).2.2
        have hhit := next_hit m n v x (by rw [HX.out, HW.out]) hx0 hlt hle (fun i a b => HNO.out i a b (by omega))
        have htz := Tryd.bits_TrailingZeros64 x hxl wr (fun _ => tab_below HT.out HBb.out HZ.out)
        obtain ⟨c, hcc⟩ : ∃ c, c = Lib.ctz 64 x := ⟨_, rfl⟩
        rw [← hcc] at hc hhit htz
        have HH := Lib.hid hhit
        have HTZ := Lib.hid htz
        clear hcc hhit htz
        go_wp2_with fail
        refine HTZ.out.mono ?_
        rintro e w3 ⟨rfl, rfl⟩
        go_wp2_with fail
        go_ret
        exact ⟨by rw [HH.out]; rfl, HBb.out⟩
    · have hnn := next_none m n (fun i a b => hno i a (by omega) b)
      have HH := Lib.hid hnn
      have HBb := Lib.hid hb
      clear hnn hb hno hk
      go_wp2_with fail
      go_ret
      exact ⟨by rw [HH.out]; rfl, HBb.out⟩
end Go.Proofs.YtjcppnleoahaiaaDoor.P
namespace Go.Proofs.YtjcppnleoahaiaaDoor.P
open Go.RowKit
/-- The numbers of a set below v. -/
def listTo (m : Nat → Bool) (v : Nat) : List Int := ((List.range v).filter m).map (fun (n : Nat) => (n : Int))
def listF (m : Nat → Bool) : List Int := listTo m 4096
theorem next_cases (m : Nat → Bool) (v : Int) : (nextF m v = -1 ∧ ∀ i : Nat, v ≤ i → i < 4096 → m i = false) ∨ ∃ j : Nat, nextF m v = j ∧ j < 4096 ∧ v ≤ j ∧ m j = true ∧ ∀ i : Nat, v ≤ i → i < j → m i = false := by
  unfold nextF
  cases h : (List.range 4096).find? (fun (j : Nat) => decide (v ≤ (j : Int)) && m j) with
  | none =>
    refine Or.inl ⟨rfl, fun i h1 h2 => ?_⟩
    rw [List.find?_eq_none] at h
    have := h i (List.mem_range.2 h2)
    simpa [h1] using this
  | some j =>
    rw [List.find?_range_eq_some] at h
    obtain ⟨h1, h2, h3⟩ := h
    simp only [Bool.and_eq_true, decide_eq_true_eq] at h1
    refine Or.inr ⟨j, rfl, by simpa using h2, h1.1, h1.2, fun i h4 h5 => ?_⟩
    have := h3 i h5
    simpa [h4] using this
theorem listTo_none (m : Nat → Bool) (v : Nat) : ∀ d, (∀ i, v ≤ i → i < v + d → m i = false) → listTo m (v + d) = listTo m v
  | 0, _ => rfl
  | d + 1, h => by
    have ih := listTo_none m v d (fun i h1 h2 => h i h1 (by omega))
    rw [← ih]
    unfold listTo
    rw [← Nat.add_assoc, List.range_succ, List.filter_append]
    simp [h (v + d) (by omega) (by omega)]
theorem listTo_next (m : Nat → Bool) (v j : Nat) (hv : v ≤ j) (hm : m j = true) (h : ∀ i, v ≤ i → i < j → m i = false) : listTo m v ++ [(j : Int)] = listTo m (j + 1) := by
  have e := listTo_none m v (j - v) (fun i h1 h2 => h i h1 (by omega))
  rw [show v + (j - v) = j by omega] at e
  rw [← e]
  unfold listTo
  rw [List.range_succ, List.filter_append]
  simp [hm]
theorem listTo_end (m : Nat → Bool) (v : Nat) (hv : v ≤ 4096) (h : ∀ i, v ≤ i → i < 4096 → m i = false) : listTo m v = listF m := by
  have e := listTo_none m v (4096 - v) (fun i h1 h2 => h i h1 (by omega))
  rw [show v + (4096 - v) = 4096 by omega] at e
  exact e.symm
theorem listTo_len (m : Nat → Bool) (v : Nat) : (listTo m v).length ≤ v := by
  unfold listTo
  rw [List.length_map]
  exact Nat.le_trans (List.length_filter_le _ _) (by simp)
end Go.Proofs.YtjcppnleoahaiaaDoor.P
namespace Go.Proofs.YtjcppnleoahaiaaDoor.P
open Go.RowKit Go.Proofs.YtjcppnleoahaiaaDoorW.PrintWords Go.Proofs.YtjcppnleoahaiaaDoorW.PrintLast Go.Proofs.YtjcppnleoahaiaaDoorW.PrintMore
set_option linter.unusedVariables false
set_option linter.unusedSimpArgs false
theorem next_call (m : Nat → Bool) (n : Int) (w : World) (hn : n ≤ 9223372036854775807) (hT : TabAt 0 Lib.deBruijn64tab w) (h0 : 0 < w.heap.size) :
    Calls Tryd.prog 19 #[.agg (cells m), .int .i64 n] w fun e w' => e = .returned (.int .i64 (nextF m n)) ∧ Below w.heap.size w w' := by
  by_cases h : n < 0
  · exact next_neg m n h w hT h0
  · obtain ⟨k, rfl⟩ : ∃ k : Nat, n = k := ⟨n.toNat, by omega⟩
    exact next_nat m k hn w hT h0
/-- What stands at a round's head. -/
def ListRel (w : World) (cs : Array Value) (m : Nat → Bool) (l n : Value) (wr : World) : Prop := ∃ v : Nat, v ≤ 4096 ∧ n = .int .i64 (nextF m v) ∧ Kd.R (Kd.int .i64) 3 wr w.heap.size (fun _ => True) l (listTo m v) ∧ wr.heap[w.heap.size]? = some (.cells cs 27 (0, 0)) ∧ Below w.heap.size w wr
set_option maxRecDepth 100000 in
set_option maxHeartbeats 4000000 in
theorem list_any (m : Nat → Bool) (w : World) (hT : TabAt 0 Lib.deBruijn64tab w) (h0 : 0 < w.heap.size) :
    Calls Tryd.prog 35 #[.agg (cells m)] w fun e w' => ∃ v_, e = .returned v_ ∧ Kd.R (Kd.int .i64) 3 w' w.heap.size (fun _ => True) v_ (listF m) ∧ Below w.heap.size w w' := by
  have hsz := cells_size m
  have hcall := next_call m
  obtain ⟨cs, hcs⟩ : ∃ cs, cs = cells m := ⟨_, rfl⟩
  rw [← hcs] at hsz hcall ⊢
  have HCALL := Lib.hid hcall
  have HT := Lib.hid hT
  have HZ := Lib.hid h0
  have hi : (Tryd.prog.info? 27).map (·.size) = some cs.size := by rw [hsz]; kernel_rfl
  clear hcs hcall hT h0
  go_enter Tryd.func35, Tryd.ntmps35
  go_wp2_with (((with_reducible refine gate_dst (N := 5) rfl ?_); refine Stp.out ?_))
  unfold Stp
  obtain ⟨w2, hw2⟩ : ∃ W_, W_ = w.alloc (.cells cs 27) := ⟨_, rfl⟩
  rw [← hw2]
  have HK1 : Hid (w2.heap[w.heap.size]? = some (.cells cs 27 (0, 0))) := Lib.hid (by rw [hw2]; exact heap_alloc_new w _)
  have HB : Hid (Below w.heap.size w w2) := Lib.hid (by rw [hw2]; exact below_alloc (Below.refl _ _) _)
  clear hw2
  refine wpList_load_row rfl 27 (.tmp 1) rfl w.heap.size rfl 27 cs (0, 0) _ HK1.out Tryd.underlying27 rfl hi ?_
  go_wp2_with fail
  refine (HCALL.out 0 _ (by omega) (tab_below HT.out HB.out HZ.out) (Nat.lt_of_lt_of_le HZ.out HB.out.size)).mono ?_
  rintro e w3 ⟨rfl, hb3⟩
  have HK3 := Lib.hid (blk_below HK1.out hb3)
  have HB3 := Lib.hid (below_step HB.out hb3)
  clear hb3 HK1 HB
  go_wp2_with fail
  go_loopw [3, 4] (fun l n wr => ListRel w cs m l n wr) (fun _ n _ => if intOf n < 0 then 0 else 4097 - (intOf n).toNat)
  case atStart => exact ⟨0, by omega, rfl, Kd.R_nil _ _ _ _ _, HK3.out, HB3.out⟩
  case round =>
    obtain ⟨v, hv, rfl, hR, hk, hb⟩ := hrel
    rcases next_cases m v with ⟨he, hend⟩ | ⟨j, he, hj, hvj, hmj, hno⟩
    · rw [he]
      have hl := listTo_end m v hv (fun i h1 h2 => hend i (by omega) h2)
      rw [hl] at hR
      have HR := Lib.hid hR
      have HBb := Lib.hid hb
      clear hR hb hk he hend hl
      go_wp2_with fail
      go_ret
      exact ⟨_, rfl, HR.out, HBb.out⟩
    · rw [he]
      have hl := listTo_next m v j (by omega) hmj (fun i h1 h2 => hno i (by omega) h2)
      have hlen := listTo_len m v
      obtain ⟨L, hL⟩ : ∃ L, L = listTo m v := ⟨_, rfl⟩
      rw [← hL] at hl hR hlen
      have HL := Lib.hid hl
      have HR := Lib.hid hR
      have HBb := Lib.hid hb
      have HK := Lib.hid hk
      clear hR hb hk he hno hl hL hmj
      go_wp2_with (((with_reducible refine gate_builtin (b := .append) (xs := #[.tmp 13, .tmp 15]) rfl ?_); at_builtin; refine Stp.out ?_))
      unfold Stp
      refine Kd.R_append (Kd.int .i64) (w0 := w) w.heap.size rfl (.tmp 13) (.tmp 15) 22 3 (.int .i64 0) 8 rfl Tryd.underlying22 info3 rfl (by decide) (by omega) u3 L (j : Int) [.int .i64 j] (fun _ => True) (fun _ => False) rfl rfl rfl (fun _ hk => hk.elim) (fun _ _ => trivial) HR.out HBb.out HBb.out.size (by omega) ?_
      intro v1 w4 hR4 hb4 hg4 hat4
      rw [HL.out] at hR4
      have HK4 := Lib.hid (blk_grown HK.out hg4 (Kd.R_ne HR.out HK.out (by decide)))
      have HR4 := Lib.hid hR4
      have HB4 := Lib.hid hb4
      clear hR4 hb4 hg4 hat4
      go_wp2_with (((with_reducible refine gate_dst (N := 9) rfl ?_); refine Stp.out ?_))
      unfold Stp
      refine wpList_load_row rfl 27 (.tmp 1) rfl w.heap.size rfl 27 cs (0, 0) _ HK4.out Tryd.underlying27 rfl hi ?_
      go_wp2_with fail
      refine (HCALL.out ((j : Int) + 1) _ (by omega) (tab_below HT.out HB4.out HZ.out) (Nat.lt_of_lt_of_le HZ.out HB4.out.size)).mono ?_
      rintro e w5 ⟨rfl, hb5⟩
      have HK5 := Lib.hid (blk_below HK4.out hb5)
      have HB5 := Lib.hid (below_step HB4.out hb5)
      have HR5 := Lib.hid (Kd.R_below HR4.out hb5)
      clear hb5
      go_wp2_with fail
      go_roundw
      case rel => exact ⟨j + 1, by omega, by norm_cast, HR5.out, HK5.out, HB5.out⟩
      case measure =>
        have e0 : ∀ x : Int, intOf (.int .i64 x) = x := fun _ => rfl
        simp only [e0]
        rw [if_neg (show ¬ (j : Int) < 0 by omega)]
        rcases next_cases m ((j : Int) + 1) with ⟨he, _⟩ | ⟨j2, he, hj2, hlt2, _⟩
        · rw [he, if_pos (by omega)]; omega
        · rw [he, if_neg (by omega)]; omega
end Go.Proofs.YtjcppnleoahaiaaDoor.P
namespace Go.Proofs.YtjcppnleoahaiaaDoor.P
open Go.RowKit Go.Proofs.YtjcppnleoahaiaaDoorW.PrintWords Go.Proofs.YtjcppnleoahaiaaDoorW.PrintLast Go.Proofs.YtjcppnleoahaiaaDoorW.PrintMore
set_option linter.unusedVariables false
set_option linter.unusedSimpArgs false
theorem exec_load {P : Program} (ev : Operand → Value) (o : Oper) (ty : TypeId) (x : Operand) (g : Nat) (v : Value) (w : World) (ho : o.op = .load ty x) (hx : ev x = .pointer (some ⟨g, 0, none⟩)) (h : (loadVar ty ⟨g, 0, none⟩).run P w = .ok v w) :
    (execOp ev o).run P w = .ok (.value v) w := by
  unfold execOp
  simp only [ho, hx, Instr.loadAt, Instr.sureAddr, Sem.run_bind, Sem.run_pure, Result.andThen_ok, h]
set_option maxRecDepth 100000 in
set_option maxHeartbeats 4000000 in
theorem subset_any (m m' : Nat → Bool) (w : World) :
    Calls Tryd.prog 33 #[.agg (cells m), .agg (cells m')] w fun e w' => e = .returned (.bool (sameF (orF m m') m')) ∧ Below w.heap.size w w' := by
  have hsz := cells_size m
  have hsz' := cells_size m'
  have hcall := or_any m m'
  have heq := eq27 (orF m m') m'
  obtain ⟨cs, hcs⟩ : ∃ cs, cs = cells m := ⟨_, rfl⟩
  obtain ⟨cs', hcs'⟩ : ∃ cs, cs = cells m' := ⟨_, rfl⟩
  obtain ⟨cs2, hcs2⟩ : ∃ cs, cs = cells (orF m m') := ⟨_, rfl⟩
  rw [← hcs, ← hcs', ← hcs2] at hcall
  rw [← hcs', ← hcs2] at heq
  rw [← hcs] at hsz ⊢
  rw [← hcs'] at hsz' ⊢
  have HCALL := Lib.hid hcall
  have hgu : Tryd.prog.eqGuardType Tryd.prog.depth 27 = false := by kernel_rfl
  have hi : (Tryd.prog.info? 27).map (·.size) = some cs.size := by rw [hsz]; kernel_rfl
  have hi' : (Tryd.prog.info? 27).map (·.size) = some cs'.size := by rw [hsz']; kernel_rfl
  clear hcs hcs' hcs2 hcall
  go_enter Tryd.func33, Tryd.ntmps33
  go_wp2_with fail
  obtain ⟨w2, hw2⟩ : ∃ W_, W_ = (w.alloc (.cells cs 27)).alloc (.cells cs' 27) := ⟨_, rfl⟩
  rw [← hw2]
  have HK1 : Hid (w2.heap[w.heap.size]? = some (.cells cs 27 (0, 0))) := Lib.hid (by rw [hw2]; exact blk_alloc (heap_alloc_new w _) _)
  have HK2 : Hid (w2.heap[w.heap.size + 1]? = some (.cells cs' 27 (0, 0))) := Lib.hid (by rw [hw2]; exact blk_new1 w _ _)
  have HB : Hid (Below w.heap.size w w2) := Lib.hid (by rw [hw2]; exact below_alloc (below_alloc (Below.refl _ _) _) _)
  clear hw2
  refine start_ (n := 6) (S := fun w' => (loadVar 27 ⟨w.heap.size, 0, none⟩).run Tryd.prog w' = .ok (.agg cs) w' ∧ (loadVar 27 ⟨w.heap.size + 1, 0, none⟩).run Tryd.prog w' = .ok (.agg cs') w') (ds := []) #[false, false, false, false, false, false] (by kernel_rfl) rfl rfl ⟨run_loadVar_row _ _ 27 27 cs (0, 0) _ (blk_drew HK1.out) Tryd.underlying27 rfl hi, run_loadVar_row _ _ 27 27 cs' (0, 0) _ (blk_drew HK2.out) Tryd.underlying27 rfl hi'⟩ (fun hHeld => ?_)
  refine take_ (i := 0) (N := some 5) (v := ?_) (a' := ?_) #[true, false, false, false, false, false] rfl rfl (by kernel_rfl) (fun _ _ _ h => h) (Or.inl ⟨by rfl, ?_⟩) hHeld ?_ ?_
  rotate_left
  · rintro w' ⟨s0, s1⟩
    refine (exec_load _ _ 27 (.tmp 2) _ _ _ (by rfl) (by rfl) s0).trans ?_
    with_reducible rfl
  rotate_left
  · simp only [Act.put, List.setIfInBounds_toArray, List.set_cons_zero, List.set_cons_succ, i64_w, i32_w]
    rfl
  refine take_ (i := 1) (N := some 6) (v := ?_) (a' := ?_) #[true, true, false, false, false, false] rfl rfl (by kernel_rfl) (fun _ _ _ h => h) (Or.inl ⟨by rfl, ?_⟩) hHeld ?_ ?_
  rotate_left
  · rintro w' ⟨s0, s1⟩
    refine (exec_load _ _ 27 (.tmp 3) _ _ _ (by rfl) (by rfl) s1).trans ?_
    with_reducible rfl
  rotate_left
  · simp only [Act.put, List.setIfInBounds_toArray, List.set_cons_zero, List.set_cons_succ, i64_w, i32_w]
    rfl
  refine take_ (i := 3) (N := some 8) (v := ?_) (a' := ?_) #[true, true, false, true, false, false] rfl rfl (by kernel_rfl) (fun _ _ _ h => h) (Or.inl ⟨by rfl, ?_⟩) hHeld ?_ ?_
  rotate_left
  · rintro w' ⟨s0, s1⟩
    refine (exec_load _ _ 27 (.tmp 3) _ _ _ (by rfl) (by rfl) s1).trans ?_
    with_reducible rfl
  rotate_left
  · simp only [Act.put, List.setIfInBounds_toArray, List.set_cons_zero, List.set_cons_succ, i64_w, i32_w]
    rfl
  refine one_ (i := 2) (N := some 7) #[true, true, true, true, false, false] rfl rfl (by kernel_rfl) (by decide) (fun K hK => ?_)
  refine goes_ Tryd.func24 (by kernel_rfl) rfl #[.agg cs, .agg cs'] (by rfl) rfl rfl (by simp only [List.map_toArray, List.map_cons, List.map_nil]; rfl) ?_
  with_reducible refine (HCALL.out w2.drew).mono ?_
  rintro e w3 ⟨rfl, hb_⟩
  refine ⟨_, rfl, ?_⟩
  have HB3 := Lib.hid (below_step (below_drew (Below.refl w2.heap.size w2)) hb_)
  clear hb_
  refine hK.out _ _ ⟨run_loadVar_row _ _ 27 27 cs (0, 0) _ (blk_below HK1.out HB3.out) Tryd.underlying27 rfl hi, run_loadVar_row _ _ 27 27 cs' (0, 0) _ (blk_below HK2.out HB3.out) Tryd.underlying27 rfl hi'⟩ (fun hHeld => ?_)
  clear hK K
  refine norm_ (a' := ?_) ?_ ?_
  rotate_left
  · show Act.put _ (some 7) _ = _
    simp only [Act.put, List.setIfInBounds_toArray, List.set_cons_zero, List.set_cons_succ, i64_w, i32_w]
    rfl
  refine pure_ (i := 4) (N := some 9) (v := ?_) (a' := ?_) #[true, true, true, true, true, false] rfl rfl (by kernel_rfl) (fun _ _ _ h => h) (Or.inl ⟨by rfl, ?_⟩) ?_ ?_
  rotate_left
  · intro w'
    go_simp
    with_reducible rfl
  rotate_left
  · simp only [Act.put, List.setIfInBounds_toArray, List.set_cons_zero, List.set_cons_succ, i64_w, i32_w]
    rfl
  refine pure_ (i := 5) (N := some 4) (v := ?_) (a' := ?_) #[true, true, true, true, true, true] rfl rfl (by kernel_rfl) (fun _ _ _ h => h) (Or.inl ⟨by rfl, ?_⟩) ?_ ?_
  rotate_left
  · intro w'
    go_simp
    with_reducible rfl
  rotate_left
  · simp only [Act.put, List.setIfInBounds_toArray, List.set_cons_zero, List.set_cons_succ, i64_w, i32_w]
    rfl
  refine done_ (by kernel_rfl) ?_
  go_wp2_with fail
  go_ret
  exact ⟨rfl, below_step HB.out HB3.out⟩
end Go.Proofs.YtjcppnleoahaiaaDoor.P
namespace Go.Proofs.YtjcppnleoahaiaaDoor.P
open Go.RowKit
/-- The last of a run from n on. -/
def runEnd (m : Nat → Bool) : Nat → Nat → Nat
  | 0, n => n
  | f + 1, n => if n + 1 < 4096 ∧ m (n + 1) = true then runEnd m f (n + 1) else n
theorem runEnd_ge (m : Nat → Bool) : ∀ f n, n ≤ runEnd m f n
  | 0, n => Nat.le_refl _
  | f + 1, n => by
    unfold runEnd
    split
    · have := runEnd_ge m f (n + 1); omega
    · exact Nat.le_refl _
theorem runEnd_lt (m : Nat → Bool) : ∀ f n, n < 4096 → runEnd m f n < 4096
  | 0, n, h => h
  | f + 1, n, h => by
    unfold runEnd
    split
    · rename_i h1; exact runEnd_lt m f (n + 1) h1.1
    · exact h
theorem runEnd_all (m : Nat → Bool) : ∀ f n, ∀ i, n < i → i ≤ runEnd m f n → m i = true
  | 0, n, i, h1, h2 => by unfold runEnd at h2; omega
  | f + 1, n, i, h1, h2 => by
    unfold runEnd at h2
    split at h2
    · rename_i h3
      by_cases e : i = n + 1
      · rw [e]; exact h3.2
      · exact runEnd_all m f (n + 1) i (by omega) h2
    · omega
theorem runEnd_fuel (m : Nat → Bool) : ∀ f f' n, 4096 ≤ f + n → 4096 ≤ f' + n → runEnd m f n = runEnd m f' n
  | 0, 0, n, _, _ => rfl
  | 0, f' + 1, n, h, _ => by
    unfold runEnd
    rw [if_neg (by omega)]
  | f + 1, 0, n, _, h => by
    unfold runEnd
    rw [if_neg (by omega)]
  | f + 1, f' + 1, n, h, h' => by
    unfold runEnd
    rw [runEnd_fuel m f f' (n + 1) (by omega) (by omega)]
def lastF (m : Nat → Bool) (n : Nat) : Nat := runEnd m 4096 n
theorem lastF_step (m : Nat → Bool) (n : Nat) : lastF m n = if n + 1 < 4096 ∧ m (n + 1) = true then lastF m (n + 1) else n := by
  unfold lastF
  conv => lhs; unfold runEnd
  rw [runEnd_fuel m 4095 4096 (n + 1) (by omega) (by omega)]
/-- The items of a set's text from v on: a number, or a run of three or more. -/
def items (m : Nat → Bool) : Nat → Nat → List (Nat × Nat)
  | 0, _ => []
  | f + 1, v => if nextF m v < 0 then [] else
      if (nextF m v).toNat + 2 ≤ lastF m (nextF m v).toNat then ((nextF m v).toNat, lastF m (nextF m v).toNat) :: items m f (lastF m (nextF m v).toNat + 1)
      else ((nextF m v).toNat, (nextF m v).toNat) :: items m f ((nextF m v).toNat + 1)
theorem items_fuel (m : Nat → Bool) : ∀ f f' v, 4097 ≤ f + v → 4097 ≤ f' + v → items m f v = items m f' v
  | 0, 0, v, _, _ => rfl
  | 0, f' + 1, v, h, _ => by
    unfold items
    rw [if_pos]
    rcases next_cases m v with ⟨he, _⟩ | ⟨j, he, hj, hv, _⟩
    · omega
    · omega
  | f + 1, 0, v, _, h => by
    unfold items
    rw [if_pos]
    rcases next_cases m v with ⟨he, _⟩ | ⟨j, he, hj, hv, _⟩
    · omega
    · omega
  | f + 1, f' + 1, v, h, h' => by
    unfold items
    rcases next_cases m v with ⟨he, _⟩ | ⟨j, he, hj, hv, _⟩
    · rw [if_pos (by omega), if_pos (by omega)]
    · rw [he, Int.toNat_natCast, if_neg (show ¬ (j : Int) < 0 by omega), if_neg (show ¬ (j : Int) < 0 by omega)]
      have hge := runEnd_ge m 4096 j
      have hge' : j ≤ lastF m j := hge
      rw [items_fuel m f f' (lastF m j + 1) (by omega) (by omega), items_fuel m f f' (j + 1) (by omega) (by omega)]
def itemsF (m : Nat → Bool) (v : Nat) : List (Nat × Nat) := items m 4097 v
theorem itemsF_none (m : Nat → Bool) (v : Nat) (h : nextF m v < 0) : itemsF m v = [] := by
  unfold itemsF items
  rw [if_pos h]
theorem itemsF_run (m : Nat → Bool) (v j : Nat) (h : nextF m v = j) (h2 : j + 2 ≤ lastF m j) : itemsF m v = (j, lastF m j) :: itemsF m (lastF m j + 1) := by
  unfold itemsF
  conv => lhs; unfold items
  rw [h, Int.toNat_natCast, if_neg (by omega), if_pos h2, items_fuel m 4096 4097 _ (by omega) (by omega)]
theorem itemsF_one (m : Nat → Bool) (v j : Nat) (h : nextF m v = j) (h2 : ¬ j + 2 ≤ lastF m j) : itemsF m v = (j, j) :: itemsF m (j + 1) := by
  unfold itemsF
  conv => lhs; unfold items
  rw [h, Int.toNat_natCast, if_neg (by omega), if_neg h2, items_fuel m 4096 4097 _ (by omega) (by omega)]
def itemT (x : Nat × Nat) : List UInt8 := Lib.itoa x.1 ++ (if x.1 = x.2 then [] else 45 :: Lib.itoa x.2)
def addT (out : List UInt8) (x : Nat × Nat) : List UInt8 := (if out = [] then [] else out ++ [44]) ++ itemT x
def textF (m : Nat → Bool) : List UInt8 := (itemsF m 0).foldl addT []
/-! ### The text tells the items -/
theorem decDigits_digit (u : Nat) : ∀ c ∈ Lib.decDigits u, 48 ≤ c.toNat ∧ c.toNat ≤ 57 := by
  induction u using Nat.strongRecOn with
  | _ u ih =>
    intro c hc
    rw [Lib.decDigits] at hc
    split at hc
    · rename_i h
      simp only [List.mem_singleton] at hc
      subst hc
      rw [UInt8.toNat_ofNat']
      omega
    · rename_i h
      rw [List.mem_append] at hc
      rcases hc with hc | hc
      · exact ih (u / 10) (by omega) c hc
      · simp only [List.mem_singleton] at hc
        subst hc
        rw [UInt8.toNat_ofNat']
        omega
theorem decDigits_ne (u : Nat) : Lib.decDigits u ≠ [] := by
  rw [Lib.decDigits]
  split <;> simp
theorem ofNat_inj {a b : Nat} (ha : a < 256) (hb : b < 256) (h : UInt8.ofNat a = UInt8.ofNat b) : a = b := by
  have := congrArg UInt8.toNat h
  rw [UInt8.toNat_ofNat', UInt8.toNat_ofNat'] at this
  omega
theorem decDigits_inj : ∀ (u v : Nat), Lib.decDigits u = Lib.decDigits v → u = v := by
  intro u
  induction u using Nat.strongRecOn with
  | _ u ih =>
    intro v h
    have key : ∀ x : Nat, 10 ≤ x → Lib.decDigits x = Lib.decDigits (x / 10) ++ [UInt8.ofNat (48 + x % 10)] := fun x hx => by
      rw [Lib.decDigits, dif_neg (by omega)]
    have low : ∀ x : Nat, x < 10 → Lib.decDigits x = [UInt8.ofNat (48 + x)] := fun x hx => by
      rw [Lib.decDigits, dif_pos hx]
    by_cases hu : u < 10
    · by_cases hv : v < 10
      · rw [low u hu, low v hv] at h
        have := ofNat_inj (by omega) (by omega) (List.cons.inj h).1
        omega
      · rw [low u hu, key v (by omega)] at h
        have h6 := congrArg List.length h
        have h5 : 0 < (Lib.decDigits (v / 10)).length := List.length_pos_iff.2 (decDigits_ne (v / 10))
        rw [List.length_append, List.length_singleton, List.length_singleton] at h6
        omega
    · by_cases hv : v < 10
      · rw [low v hv, key u (by omega)] at h
        have h6 := congrArg List.length h
        have h5 : 0 < (Lib.decDigits (u / 10)).length := List.length_pos_iff.2 (decDigits_ne (u / 10))
        rw [List.length_append, List.length_singleton, List.length_singleton] at h6
        omega
      · rw [key u (by omega), key v (by omega)] at h
        obtain ⟨h1, h2⟩ := List.append_inj' h rfl
        have h3 := ih (u / 10) (by omega) (v / 10) h1
        have h4 := ofNat_inj (by omega) (by omega) (List.cons.inj h2).1
        omega
theorem itoa_nat (n : Nat) : Lib.itoa (n : Int) = Lib.decDigits n := by
  unfold Lib.itoa
  rw [if_neg (by omega), Int.toNat_natCast]
/-- A row of signs without c, then c: where it ends. -/
theorem split_at (c : UInt8) : ∀ (a b x y : List UInt8), c ∉ a → c ∉ b → a ++ c :: x = b ++ c :: y → a = b ∧ x = y
  | [], [], x, y, _, _, h => ⟨rfl, (List.cons.inj h).2⟩
  | [], d :: b, x, y, _, hb, h => by
    have := (List.cons.inj h).1
    subst this
    simp at hb
  | d :: a, [], x, y, ha, _, h => by
    have := (List.cons.inj h).1
    subst this
    simp at ha
  | d :: a, e :: b, x, y, ha, hb, h => by
    obtain ⟨h1, h2⟩ := List.cons.inj h
    obtain ⟨h3, h4⟩ := split_at c a b x y (fun hh => ha (List.mem_cons_of_mem _ hh)) (fun hh => hb (List.mem_cons_of_mem _ hh)) h2
    exact ⟨by rw [h1, h3], h4⟩
theorem no_sign (n : Nat) (c : UInt8) (hc : c.toNat < 48) : c ∉ Lib.itoa (n : Int) := by
  rw [itoa_nat]
  intro h
  have := decDigits_digit n c h
  omega
theorem itoa_inj (a b : Nat) (h : Lib.itoa (a : Int) = Lib.itoa (b : Int)) : a = b := by
  rw [itoa_nat, itoa_nat] at h
  exact decDigits_inj _ _ h
theorem itemT_inj (x y : Nat × Nat) (h : itemT x = itemT y) : x = y := by
  obtain ⟨a, b⟩ := x
  obtain ⟨c, d⟩ := y
  unfold itemT at h
  simp only at h
  by_cases e1 : a = b
  · by_cases e2 : c = d
    · rw [if_pos e1, if_pos e2, List.append_nil, List.append_nil] at h
      have := itoa_inj _ _ h
      simp; omega
    · rw [if_pos e1, if_neg e2, List.append_nil] at h
      exact absurd (h ▸ List.mem_append_right _ (List.mem_cons_self) : (45 : UInt8) ∈ Lib.itoa (a : Int)) (no_sign a 45 (by decide))
  · by_cases e2 : c = d
    · rw [if_neg e1, if_pos e2, List.append_nil] at h
      exact absurd (h ▸ List.mem_append_right _ (List.mem_cons_self) : (45 : UInt8) ∈ Lib.itoa (c : Int)) (no_sign c 45 (by decide))
    · rw [if_neg e1, if_neg e2] at h
      obtain ⟨h1, h2⟩ := split_at 45 _ _ _ _ (no_sign a 45 (by decide)) (no_sign c 45 (by decide)) h
      have := itoa_inj _ _ h1
      have := itoa_inj _ _ h2
      simp; omega
theorem itemT_comma (x : Nat × Nat) : (44 : UInt8) ∉ itemT x := by
  unfold itemT
  rw [List.mem_append]
  rintro (h | h)
  · exact no_sign _ 44 (by decide) h
  · split at h
    · simp at h
    · rw [List.mem_cons] at h
      rcases h with h | h
      · exact absurd h (by decide)
      · exact no_sign _ 44 (by decide) h
theorem itemT_ne (x : Nat × Nat) : itemT x ≠ [] := by
  unfold itemT
  rw [itoa_nat]
  intro h
  exact decDigits_ne _ (List.append_eq_nil_iff.1 h).1
/-- The items' text, from the front. -/
def joinT : List (Nat × Nat) → List UInt8
  | [] => []
  | x :: l => itemT x ++ (if l = [] then [] else 44 :: joinT l)
theorem addT_ne (out : List UInt8) (x : Nat × Nat) : addT out x ≠ [] := by
  unfold addT
  intro h
  exact itemT_ne x (List.append_eq_nil_iff.1 h).2
theorem fold_join : ∀ (l : List (Nat × Nat)) (out : List UInt8), out ≠ [] → l.foldl addT out = out ++ (if l = [] then [] else 44 :: joinT l)
  | [], out, _ => by simp
  | x :: l, out, h => by
    rw [List.foldl_cons, fold_join l _ (addT_ne _ _)]
    simp only [addT, if_neg h, joinT, List.cons_ne_nil, if_false]
    simp
theorem textF_join (m : Nat → Bool) : textF m = joinT (itemsF m 0) := by
  unfold textF
  cases h : itemsF m 0 with
  | nil => rfl
  | cons x l =>
    rw [List.foldl_cons, fold_join l _ (addT_ne _ _)]
    simp [addT, joinT]
theorem joinT_ne (x : Nat × Nat) (l : List (Nat × Nat)) : joinT (x :: l) ≠ [] := by
  unfold joinT
  intro h
  exact itemT_ne x (List.append_eq_nil_iff.1 h).1
theorem joinT_inj : ∀ (l k : List (Nat × Nat)), joinT l = joinT k → l = k
  | [], [], _ => rfl
  | [], y :: k, h => absurd h.symm (joinT_ne y k)
  | x :: l, [], h => absurd h (joinT_ne x l)
  | x :: l, y :: k, h => by
    simp only [joinT] at h
    by_cases e1 : l = []
    · by_cases e2 : k = []
      · rw [if_pos e1, if_pos e2, List.append_nil, List.append_nil] at h
        rw [itemT_inj x y h, e1, e2]
      · rw [if_pos e1, if_neg e2, List.append_nil] at h
        exact absurd (h ▸ List.mem_append_right _ (List.mem_cons_self) : (44 : UInt8) ∈ itemT x) (itemT_comma x)
    · by_cases e2 : k = []
      · rw [if_neg e1, if_pos e2, List.append_nil] at h
        exact absurd (h ▸ List.mem_append_right _ (List.mem_cons_self) : (44 : UInt8) ∈ itemT y) (itemT_comma y)
      · rw [if_neg e1, if_neg e2] at h
        obtain ⟨h1, h2⟩ := split_at 44 _ _ _ _ (itemT_comma x) (itemT_comma y) h
        rw [itemT_inj x y h1, joinT_inj l k h2]
/-- The items tell the set. -/
def covers (l : List (Nat × Nat)) (i : Nat) : Bool := l.any fun x => decide (x.1 ≤ i ∧ i ≤ x.2)
theorem items_cover (m : Nat → Bool) : ∀ f v, 4097 ≤ f + v → ∀ i, v ≤ i → i < 4096 → covers (items m f v) i = m i
  | 0, v, h, i, h1, h2 => by omega
  | f + 1, v, h, i, h1, h2 => by
    unfold items
    rcases next_cases m v with ⟨he, hno⟩ | ⟨j, he, hj, hv, hm, hno⟩
    · rw [if_pos (by omega)]
      simp [covers, hno i (by omega) h2]
    · rw [he, Int.toNat_natCast, if_neg (by omega)]
      have hge : j ≤ lastF m j := runEnd_ge m 4096 j
      have hall := runEnd_all m 4096 j
      by_cases h3 : j + 2 ≤ lastF m j
      · rw [if_pos h3]
        simp only [covers, List.any_cons]
        by_cases hij : i < j
        · have hrest : covers (items m f (lastF m j + 1)) i = false := by
            have := items_lo m f (lastF m j + 1)
            simp only [covers, List.any_eq_false]
            intro x hx
            have := this x hx
            simp; omega
          have h4 : ((items m f (lastF m j + 1)).any fun x => decide (x.1 ≤ i ∧ i ≤ x.2)) = false := hrest
          rw [h4, hno i (by omega) (by omega)]
          simp; omega
        · by_cases hil : i ≤ lastF m j
          · have hmi : m i = true := by
              by_cases e : i = j
              · rw [e]; exact hm
              · exact hall i (by omega) hil
            rw [hmi]
            simp; left; omega
          · have := items_cover m f (lastF m j + 1) (by omega) i (by omega) h2
            simp only [covers] at this
            rw [this]
            have e : decide (j ≤ i ∧ i ≤ lastF m j) = false := by simp; omega
            rw [e, Bool.false_or]
      · rw [if_neg h3]
        simp only [covers, List.any_cons]
        by_cases hij : i < j
        · have h4 : ((items m f (j + 1)).any fun x => decide (x.1 ≤ i ∧ i ≤ x.2)) = false := by
            have := items_lo m f (j + 1)
            simp only [List.any_eq_false]
            intro x hx
            have := this x hx
            simp; omega
          rw [h4, hno i (by omega) (by omega)]
          simp; omega
        · by_cases e : i = j
          · rw [e, hm]; simp
          · have := items_cover m f (j + 1) (by omega) i (by omega) h2
            simp only [covers] at this
            rw [this]
            have e : decide (j ≤ i ∧ i ≤ j) = false := by simp; omega
            rw [e, Bool.false_or]
where
  items_lo (m : Nat → Bool) : ∀ f v, ∀ x ∈ items m f v, v ≤ x.1
  | 0, v, x, hx => by simp [items] at hx
  | f + 1, v, x, hx => by
    unfold items at hx
    rcases next_cases m v with ⟨he, hno⟩ | ⟨j, he, hj, hv, hm, hno⟩
    · rw [if_pos (by omega)] at hx
      simp at hx
    · rw [he, Int.toNat_natCast, if_neg (by omega)] at hx
      have hge : j ≤ lastF m j := runEnd_ge m 4096 j
      by_cases h3 : j + 2 ≤ lastF m j
      · rw [if_pos h3, List.mem_cons] at hx
        rcases hx with rfl | hx
        · simp; omega
        · have := items_lo m f _ x hx
          omega
      · rw [if_neg h3, List.mem_cons] at hx
        rcases hx with rfl | hx
        · simp; omega
        · have := items_lo m f _ x hx
          omega
theorem textF_inj (m m' : Nat → Bool) : textF m = textF m' ↔ ∀ n, n < 4096 → m n = m' n := by
  rw [textF_join, textF_join]
  constructor
  · intro h n hn
    have e := joinT_inj _ _ h
    have h1 := items_cover m 4097 0 (by omega) n (by omega) hn
    have h2 := items_cover m' 4097 0 (by omega) n (by omega) hn
    unfold itemsF at e
    rw [← h1, ← h2, e]
  · intro h
    have hnx : ∀ v, nextF m v = nextF m' v := fun v => by
      rcases next_cases m v with ⟨he, hno⟩ | ⟨j, he, hj, hv, hm, hno⟩
      · rw [he, next_none m' v (fun i h1 h2 => by rw [← h i h2]; exact hno i h1 h2)]
      · rw [he, next_some m' v j hj (by rw [← h j hj]; exact hm) hv (fun i h1 h2 => by rw [← h i (by omega)]; exact hno i h1 h2)]
    have hr : ∀ f n, runEnd m f n = runEnd m' f n := by
      intro f
      induction f with
      | zero => intro n; rfl
      | succ f ih =>
        intro n
        unfold runEnd
        by_cases h1 : n + 1 < 4096
        · rw [ih, h (n + 1) h1]
        · rw [if_neg (by omega), if_neg (by omega)]
    have hi : ∀ f v, items m f v = items m' f v := by
      intro f
      induction f with
      | zero => intro v; rfl
      | succ f ih =>
        intro v
        unfold items lastF
        rw [hnx, hr, ih, ih]
    unfold itemsF
    rw [hi]
end Go.Proofs.YtjcppnleoahaiaaDoor.P
namespace Go.Proofs.YtjcppnleoahaiaaDoor.P
open Go.RowKit Go.Proofs.YtjcppnleoahaiaaDoorW.PrintWords Go.Proofs.YtjcppnleoahaiaaDoorW.PrintLast Go.Proofs.YtjcppnleoahaiaaDoorW.PrintMore
set_option linter.unusedVariables false
set_option linter.unusedSimpArgs false
/-- The tables of the library lie as the text lays them. -/
def Tabs (w : World) : Prop := TabAt 0 Lib.deBruijn64tab w ∧ Lib.TabIs Tryd.prog w "internal/strconv.uint64pow10" .u64 Lib.pow10Tab ∧ 3 ≤ w.heap.size
theorem Tabs.below {w w' : World} (h : Tabs w) {n : Nat} (hb : Below n w w') (hn : 3 ≤ n) : Tabs w' :=
  ⟨tab_below h.1 hb (by omega), var?_below hb (g := 1) (by kernel_rfl) (by omega) h.2.1, Nat.le_trans h.2.2 hb.size⟩
theorem below_grow (w : World) (k : Nat) (os : Array Obj) : Below w.heap.size w (Sort.grow (w.drewN k) os) := ⟨rfl, rfl, rfl, (by show w.heap.size ≤ (w.heap ++ os).size; simp), fun b hb => (by show (w.heap ++ os)[b]? = w.heap[b]?; rw [Array.getElem?_append_left hb])⟩
theorem itoa_call (n : Nat) (hn : n < 4096) (w : World) (hT : Tabs w) : Calls Tryd.prog 39 #[.int .i64 n] w fun e w' => e = .returned (.string ⟨(Lib.itoa n).toArray⟩) ∧ Below w.heap.size w w' :=
  (Tryd.strconv_Itoa n (by omega) (by omega) w hT.2.1).mono fun e w' ⟨he, k, os, hw⟩ => ⟨he, hw ▸ below_grow w k os⟩
theorem itoa_len (n : Nat) (hn : n < 4096) : (Lib.itoa (n : Int)).length ≤ 4 := by
  rw [itoa_nat, Lib.decDigits_length]
  by_cases h : n < 10
  · rw [Lib.nDigits_small h]; omega
  · by_cases h2 : n < 100
    · rw [Lib.nDigits_unique 1 n (by omega) (by omega)]; omega
    · by_cases h3 : n < 1000
      · rw [Lib.nDigits_unique 2 n (by omega) (by omega)]; omega
      · rw [Lib.nDigits_unique 3 n (by omega) (by omega)]; omega
theorem itemT_len (a b : Nat) (ha : a < 4096) (hb : b < 4096) : (itemT (a, b)).length ≤ 9 := by
  have h1 := itoa_len a ha
  have h2 := itoa_len b hb
  unfold itemT
  rw [List.length_append]
  split <;> simp at * <;> omega
theorem addT_len (out : List UInt8) (a b : Nat) (ha : a < 4096) (hb : b < 4096) : (addT out (a, b)).length ≤ out.length + 10 := by
  have h := itemT_len a b ha hb
  unfold addT
  rw [List.length_append]
  split <;> simp at * <;> omega
/-- What stands at a round's head. -/
def TextRel (w : World) (cs : Array Value) (m : Nat → Bool) (s n : Value) (wr : World) : Prop := ∃ (v : Nat) (out : List UInt8), v ≤ 4096 ∧ out.length ≤ 10 * v ∧ n = .int .i64 (nextF m v) ∧ s = .string ⟨out.toArray⟩ ∧ (itemsF m v).foldl addT out = textF m ∧ wr.heap[w.heap.size]? = some (.cells cs 27 (0, 0)) ∧ Below w.heap.size w wr
def LastRel (w : World) (cs : Array Value) (m : Nat → Bool) (j : Nat) (s : Value) (wr : World) : Prop := ∃ k : Nat, j ≤ k ∧ k < 4096 ∧ s = .int .i64 k ∧ lastF m j = lastF m k ∧ wr.heap[w.heap.size]? = some (.cells cs 27 (0, 0)) ∧ Below w.heap.size w wr
theorem bytes_yes (out dj O : List UInt8) (h : ¬ out = []) (hO : O = (if out = [] then [] else out ++ [44]) ++ dj) : (({ data := out.toArray } : ByteArray) ++ { data := #[44] } ++ { data := dj.toArray }) = ⟨O.toArray⟩ := by
  rw [hO, if_neg h]
  apply ByteArray.ext
  simp [ByteArray.data_append]
theorem bytes_no (out dj O : List UInt8) (h : out = []) (hO : O = (if out = [] then [] else out ++ [44]) ++ dj) : (({ data := out.toArray } : ByteArray) ++ { data := dj.toArray }) = ⟨O.toArray⟩ := by
  rw [hO, if_pos h, h]
  apply ByteArray.ext
  simp [ByteArray.data_append]
theorem bytes_run (O dk X : List UInt8) (hX : X = O ++ 45 :: dk) : (({ data := O.toArray } : ByteArray) ++ ({ data := #[45] } ++ { data := dk.toArray })) = ⟨X.toArray⟩ := by
  rw [hX]
  apply ByteArray.ext
  simp [ByteArray.data_append]
set_option maxRecDepth 100000 in
set_option maxHeartbeats 4000000 in
theorem text_any (m : Nat → Bool) (w : World) (hT : Tabs w) :
    Calls Tryd.prog 21 #[.agg (cells m)] w fun e w' => e = .returned (.string ⟨(textF m).toArray⟩) ∧ Below w.heap.size w w' := by
  have hsz := cells_size m
  have hcall := next_call m
  have hhas := has_any m
  obtain ⟨cs, hcs⟩ : ∃ cs, cs = cells m := ⟨_, rfl⟩
  rw [← hcs] at hsz hcall hhas ⊢
  have HCALL := Lib.hid hcall
  have HHAS := Lib.hid hhas
  have HT := Lib.hid hT
  have hi : (Tryd.prog.info? 27).map (·.size) = some cs.size := by rw [hsz]; kernel_rfl
  clear hcs hcall hT hhas
  go_enter Tryd.func21, Tryd.ntmps21
  go_wp2_with (((with_reducible refine gate_dst (N := 6) rfl ?_); refine Stp.out ?_))
  unfold Stp
  obtain ⟨w2, hw2⟩ : ∃ W_, W_ = w.alloc (.cells cs 27) := ⟨_, rfl⟩
  rw [← hw2]
  have HK1 : Hid (w2.heap[w.heap.size]? = some (.cells cs 27 (0, 0))) := Lib.hid (by rw [hw2]; exact heap_alloc_new w _)
  have HB : Hid (Below w.heap.size w w2) := Lib.hid (by rw [hw2]; exact below_alloc (Below.refl _ _) _)
  clear hw2
  refine wpList_load_row rfl 27 (.tmp 1) rfl w.heap.size rfl 27 cs (0, 0) _ HK1.out Tryd.underlying27 rfl hi ?_
  go_wp2_with fail
  refine (HCALL.out 0 _ (by omega) (HT.out.below HB.out HT.out.2.2).1 (Nat.lt_of_lt_of_le (by have := HT.out.2.2; omega) HB.out.size)).mono ?_
  rintro e w3 ⟨rfl, hb3⟩
  have HK3 := Lib.hid (blk_below HK1.out hb3)
  have HB3 := Lib.hid (below_step HB.out hb3)
  clear hb3 HK1 HB
  go_wp2_with fail
  go_loopw [3, 4, 5] (fun s n _ wr => TextRel w cs m s n wr) (fun _ n _ _ => if intOf n < 0 then 0 else 4097 - (intOf n).toNat)
  case atStart => exact ⟨0, [], by omega, by simp, rfl, rfl, rfl, HK3.out, HB3.out⟩
  case round =>
    obtain ⟨v, out, hv, hlen, rfl, rfl, hfold, hk, hb⟩ := hrel
    have HF := Lib.hid hfold
    have HK := Lib.hid hk
    have HBb := Lib.hid hb
    clear hfold hk hb
    rcases next_cases m v with ⟨he, hend⟩ | ⟨j, he, hj, hvj, hmj, hno⟩
    · have hnone := itemsF_none m v (by omega)
      have hfin := HF.out
      rw [hnone, List.foldl_nil] at hfin
      rw [he]
      have HFIN := Lib.hid hfin
      clear he hend hnone hfin
      go_wp2_with fail
      go_ret
      exact ⟨by rw [HFIN.out]; rfl, HBb.out⟩
    · rw [he]
      have hvj' : v ≤ j := by omega
      have HE := Lib.hid he
      clear he hmj hno hvj
      have hjl := itoa_len j hj
      obtain ⟨dj, hdj⟩ : ∃ dj, dj = Lib.itoa (j : Int) := ⟨_, rfl⟩
      have HDJ := Lib.hid hdj
      rw [← hdj] at hjl
      clear hdj
      obtain ⟨O, hO⟩ : ∃ O, O = (if out = [] then [] else out ++ [44]) ++ dj := ⟨_, rfl⟩
      have hOl : O.length ≤ out.length + 5 := by
        rw [hO, List.length_append]
        split <;> simp at * <;> omega
      have HO := Lib.hid hO
      clear hO
      by_cases ho : out = []
      all_goals
        first
        | (have hne : out.isEmpty = true := by rw [ho]; rfl)
        | (have hne : out.isEmpty = false := by simpa using ho)
        have HOUT := Lib.hid ho
        clear ho
        go_wp2_with fail
        refine (itoa_call j hj _ (HT.out.below HBb.out HT.out.2.2)).mono ?_
        rintro e w4 ⟨rfl, hb4⟩
        rw [← HDJ.out]
        have HK4 := Lib.hid (blk_below HK.out hb4)
        have HB4 := Lib.hid (below_step HBb.out hb4)
        clear hb4
        go_wp2_with fail
        first
        | rw [bytes_yes out dj O HOUT.out HO.out]
        | rw [bytes_no out dj O HOUT.out HO.out]
        clear hne
        go_loopw [5] (fun k wr => LastRel w cs m j k wr) (fun k _ => 4096 - (intOf k).toNat)
        case atStart => exact ⟨j, by omega, hj, rfl, rfl, HK4.out, HB4.out⟩
        case round =>
          obtain ⟨k, hjk, hk4, rfl, hlast, hk5, hb5⟩ := hrel
          have HL := Lib.hid hlast
          have HK5 := Lib.hid hk5
          have HB5 := Lib.hid hb5
          clear hlast hk5 hb5
          have hstep := lastF_step m k
          have hI : hasI m ((k : Int) + 1) = (decide (k + 1 < 4096) && m (k + 1)) := by
            unfold hasI
            have e1 : decide (0 ≤ (k : Int) + 1 ∧ (k : Int) + 1 < 4096) = decide (k + 1 < 4096) := by rw [decide_eq_decide]; omega
            rw [e1]
            rfl
          have HST := Lib.hid hstep
          have HI := Lib.hid hI
          clear hstep hI
          go_wp2_with (((with_reducible refine gate_dst (N := 23) rfl ?_); refine Stp.out ?_))
          unfold Stp
          refine wpList_load_row rfl 27 (.tmp 1) rfl w.heap.size rfl 27 cs (0, 0) _ HK5.out Tryd.underlying27 rfl hi ?_
          go_wp2_with fail
          refine (HHAS.out ((k : Int) + 1) _).mono ?_
          rintro e w6 ⟨rfl, hb6⟩
          rw [HI.out]
          have HK6 := Lib.hid (blk_below HK5.out hb6)
          have HB6 := Lib.hid (below_step HB5.out hb6)
          clear hb6
          by_cases hmore : k + 1 < 4096 ∧ m (k + 1) = true
          · have hyes : (decide (k + 1 < 4096) && m (k + 1)) = true := by simpa using hmore
            have hs := HST.out
            rw [if_pos hmore] at hs
            have HS := Lib.hid hs
            have hk1 := hmore.1
            rw [hyes]
            clear hs hmore hyes
            go_wp2_with fail
            go_roundw
            case rel => exact ⟨k + 1, by omega, hk1, by norm_cast, by rw [HL.out, HS.out], HK6.out, HB6.out⟩
            case measure => simp [intOf]; omega
          · have hno : (decide (k + 1 < 4096) && m (k + 1)) = false := by simpa using hmore
            have hs := HST.out
            rw [if_neg hmore] at hs
            have HS := Lib.hid hs
            rw [hno]
            clear hs hmore hno
            have hlk : lastF m j = k := by rw [HL.out, HS.out]
            by_cases h2 : j + 2 ≤ k
            · have HFold : Hid ((itemsF m (k + 1)).foldl addT (addT out (j, k)) = textF m) := Lib.hid (by
                have h3 := HF.out
                rw [itemsF_run m v j HE.out (by rw [hlk]; exact h2), hlk, List.foldl_cons] at h3
                exact h3)
              obtain ⟨dk, hdk⟩ : ∃ dk, dk = Lib.itoa (k : Int) := ⟨_, rfl⟩
              have hkl := itoa_len k hk4
              have HDK := Lib.hid hdk
              rw [← hdk] at hkl
              obtain ⟨X, hX⟩ : ∃ X, X = O ++ 45 :: dk := ⟨_, rfl⟩
              have HX := Lib.hid hX
              have HX2 : Hid (X = addT out (j, k)) := Lib.hid (by
                rw [hX, HO.out, HDJ.out, hdk]
                unfold addT itemT
                simp only
                rw [if_neg (show ¬ j = k by omega), List.append_assoc])
              have hXl : X.length ≤ out.length + 10 := by rw [hX, List.length_append, List.length_cons]; omega
              clear hdk hX hlk
              have t1 : decide ((j : Int) + 2 ≤ (k : Int)) = true := by simp; omega
              go_wp2_with fail
              refine (itoa_call k hk4 _ (HT.out.below HB6.out HT.out.2.2)).mono ?_
              rintro e w7 ⟨rfl, hb7⟩
              rw [← HDK.out]
              have HK7 := Lib.hid (blk_below HK6.out hb7)
              have HB7 := Lib.hid (below_step HB6.out hb7)
              clear hb7
              go_wp2_with (((with_reducible refine gate_dst (N := 10) rfl ?_); refine Stp.out ?_))
              unfold Stp
              rw [bytes_run O dk X HX.out]
              refine wpList_load_row rfl 27 (.tmp 1) rfl w.heap.size rfl 27 cs (0, 0) _ HK7.out Tryd.underlying27 rfl hi ?_
              go_wp2_with fail
              refine (HCALL.out ((k : Int) + 1) _ (by omega) (HT.out.below HB7.out HT.out.2.2).1 (Nat.lt_of_lt_of_le (by have := HT.out.2.2; omega) HB7.out.size)).mono ?_
              rintro e w8 ⟨rfl, hb8⟩
              have HK8 := Lib.hid (blk_below HK7.out hb8)
              have HB8 := Lib.hid (below_step HB7.out hb8)
              clear hb8
              go_wp2_with fail
              go_roundw
              case rel => exact ⟨k + 1, X, by omega, by omega, by norm_cast, rfl, by rw [HX2.out]; exact HFold.out, HK8.out, HB8.out⟩
              case measure =>
                have e0 : ∀ x : Int, intOf (.int .i64 x) = x := fun _ => rfl
                simp only [e0]
                rw [if_neg (show ¬ (j : Int) < 0 by omega)]
                rcases next_cases m ((k : Int) + 1) with ⟨he, _⟩ | ⟨j2, he, hj2, hlt2, _⟩
                · rw [he, if_pos (by omega)]; omega
                · rw [he, if_neg (by omega)]; omega
            · have HFold : Hid ((itemsF m (j + 1)).foldl addT (addT out (j, j)) = textF m) := Lib.hid (by
                have h3 := HF.out
                rw [itemsF_one m v j HE.out (by rw [hlk]; exact h2), List.foldl_cons] at h3
                exact h3)
              have HX2 : Hid (O = addT out (j, j)) := Lib.hid (by
                rw [HO.out, HDJ.out]
                unfold addT itemT
                simp only
                rw [if_pos trivial, List.append_nil])
              clear hlk
              have t1 : decide ((j : Int) + 2 ≤ (k : Int)) = false := by simp; omega
              go_wp2_with (((with_reducible refine gate_dst (N := 10) rfl ?_); refine Stp.out ?_))
              unfold Stp
              refine wpList_load_row rfl 27 (.tmp 1) rfl w.heap.size rfl 27 cs (0, 0) _ HK6.out Tryd.underlying27 rfl hi ?_
              go_wp2_with fail
              refine (HCALL.out ((j : Int) + 1) _ (by omega) (HT.out.below HB6.out HT.out.2.2).1 (Nat.lt_of_lt_of_le (by have := HT.out.2.2; omega) HB6.out.size)).mono ?_
              rintro e w8 ⟨rfl, hb8⟩
              have HK8 := Lib.hid (blk_below HK6.out hb8)
              have HB8 := Lib.hid (below_step HB6.out hb8)
              clear hb8
              go_wp2_with fail
              go_roundw
              case rel => exact ⟨j + 1, O, by omega, by omega, by norm_cast, rfl, by rw [HX2.out]; exact HFold.out, HK8.out, HB8.out⟩
              case measure =>
                have e0 : ∀ x : Int, intOf (.int .i64 x) = x := fun _ => rfl
                simp only [e0]
                rw [if_neg (show ¬ (j : Int) < 0 by omega)]
                rcases next_cases m ((j : Int) + 1) with ⟨he, _⟩ | ⟨j2, he, hj2, hlt2, _⟩
                · rw [he, if_pos (by omega)]; omega
                · rw [he, if_neg (by omega)]; omega
end Go.Proofs.YtjcppnleoahaiaaDoor.P
