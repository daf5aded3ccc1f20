/- bits.Set: Next. -/
import Derived.Test.YtjcppnleoahaiaaDoorBitsI
import Derived.Test.YtjcppnleoahaiaaDoorBitsC
import Derived.Test.YtjcppnleoahaiaaDoorShelf
namespace Go.Proofs.YtjcppnleoahaiaaDoor.P
open Go.RowKit Go.Proofs.YtjcppnleoahaiaaDoorW.PrintWords Go.Proofs.YtjcppnleoahaiaaDoorW.PrintLast Go.Proofs.YtjcppnleoahaiaaDoorW.PrintMore
attribute [local go_sem] max2_int min2_int max_two min_two
set_option linter.unusedVariables false
set_option linter.unusedSimpArgs false
theorem tab_below {n : Nat} {w w' : World} (h : TabAt 0 Lib.deBruijn64tab w) (hb : Below n w w') (h0 : 0 < n) : TabAt 0 Lib.deBruijn64tab w' := fun j hj => (hb.cell (p := ⟨0, j, none⟩) h0).trans (h j hj)
/-- What stands at a round's head. -/
def NextRel (w : World) (cs : Array Value) (m : Nat → Bool) (v0 : Int) (i : Value) (wr : World) : Prop := ∃ v : Nat, v ≤ 9223372036854775807 ∧ i = .int .i64 v ∧ v0 ≤ v ∧ (∀ i : Nat, v0 ≤ i → i < v → i < 4096 → m i = false) ∧ wr.heap[w.heap.size]? = some (.cells cs 27 (0, 0)) ∧ Below w.heap.size w wr
set_option maxRecDepth 100000 in
set_option maxHeartbeats 4000000 in
theorem next_nat (m : Nat → Bool) (n : Nat) (hn : (n : Int) ≤ 9223372036854775807) (w : World) (hT : TabAt 0 Lib.deBruijn64tab w) (h0 : 0 < w.heap.size) :
    Calls Tryd.prog 19 #[.agg (cells m), .int .i64 n] w fun e w' => e = .returned (.int .i64 (nextF m n)) ∧ Below w.heap.size w w' := by
  have hsz := cells_size m
  obtain ⟨cs, hcs⟩ : ∃ cs, cs = cells m := ⟨_, rfl⟩
  rw [← hcs] at hsz ⊢
  have HCS := Lib.hid hcs
  have HT := Lib.hid hT
  have HZ := Lib.hid h0
  clear hcs hT h0
  go_enter Tryd.func19, Tryd.ntmps19
  go_wp2_with fail
  obtain ⟨w2, hw2⟩ : ∃ W_, W_ = w.alloc (.cells cs 27) := ⟨_, rfl⟩
  rw [← hw2]
  have HK1 : Hid (w2.heap[w.heap.size]? = some (.cells cs 27 (0, 0))) := Lib.hid (by rw [hw2]; exact heap_alloc_new w _)
  have HB : Hid (Below w.heap.size w w2) := Lib.hid (by rw [hw2]; exact below_alloc (Below.refl _ _) _)
  clear hw2
  go_loopw [1] (fun i wr => NextRel w cs m n i wr) (fun i _ => 4096 - (intOf i).toNat)
  case atStart => exact ⟨n, by omega, by norm_cast, by omega, fun i h1 h2 => by omega, HK1.out, HB.out⟩
  case round =>
    obtain ⟨v, hv, rfl, hle, hno, hk, hb⟩ := hrel
    by_cases hlt : v < 4096
    · have hq : v / 64 < 64 := by omega
      have hat := cells_at m hq
      rw [← HCS.out] at hat
      have hcell : wr.cell? ⟨w.heap.size, v / 64, none⟩ = some (.int .u64 (word m (v / 64))) := (blk_cell hk (v / 64)).trans hat
      obtain ⟨W, hW⟩ : ∃ W, W = word m (v / 64) := ⟨_, rfl⟩
      have hWl := word_lt m (v / 64)
      rw [← hW] at hcell hWl
      obtain ⟨x, hx⟩ : ∃ x, x = W / 2 ^ (v % 64) := ⟨_, rfl⟩
      have hxe : (W : Int) / 2 ^ (v % 64) = (x : Int) := by rw [hx]; norm_cast
      have HX := Lib.hid hx
      have HW := Lib.hid hW
      have HNO := Lib.hid hno
      have HK := Lib.hid hk
      have HBb := Lib.hid hb
      have hxl : x < 18446744073709551616 := by rw [hx]; exact Nat.lt_of_le_of_lt (Nat.div_le_self _ _) hWl
      have j0 : (0 : Int) ≤ (v : Int) / 64 := by omega
      have j1 : (v : Int) / 64 < 64 := by omega
      clear hx hW hno hk hb hat
      by_cases hx0 : x = 0
      · subst hx0
        go_wp2_with fail
        exact ⟨⟨(v / 64 + 1) * 64, by omega, by norm_cast, by omega, fun i h1 h2 h3 => next_miss m _ v (by rw [← HW.out]; exact HX.out.symm) (fun i a b => HNO.out i a b (by omega)) i h1 h2, HK.out, HBb.out⟩, by simp [intOf]; omega⟩
      · have hx1 : ((x : Int) != 0) = true := by simp; omega
        have hc := (ctz_bit x hx0 hxl).2.2
        have hhit := next_hit m n v x (by rw [HX.out, HW.out]) hx0 hlt hle (fun i a b => HNO.out i a b (by omega))
        have htz := Tryd.bits_TrailingZeros64 x hxl wr (fun _ => tab_below HT.out HBb.out HZ.out)
        obtain ⟨c, hcc⟩ : ∃ c, c = Lib.ctz 64 x := ⟨_, rfl⟩
        rw [← hcc] at hc hhit htz
        have HH := Lib.hid hhit
        have HTZ := Lib.hid htz
        clear hcc hhit htz
        go_wp2_with fail
        refine HTZ.out.mono ?_
        rintro e w3 ⟨rfl, rfl⟩
        go_wp2_with fail
        go_ret
        exact ⟨by rw [HH.out]; rfl, HBb.out⟩
    · have hnn := next_none m n (fun i a b => hno i a (by omega) b)
      have HH := Lib.hid hnn
      have HBb := Lib.hid hb
      clear hnn hb hno hk
      go_wp2_with fail
      go_ret
      exact ⟨by rw [HH.out]; rfl, HBb.out⟩
set_option maxRecDepth 100000 in
set_option maxHeartbeats 4000000 in
theorem next_neg (m : Nat → Bool) (n : Int) (hn : n < 0) (w : World) (hT : TabAt 0 Lib.deBruijn64tab w) (h0 : 0 < w.heap.size) :
    Calls Tryd.prog 19 #[.agg (cells m), .int .i64 n] w fun e w' => e = .returned (.int .i64 (nextF m n)) ∧ Below w.heap.size w w' := by
  have hsz := cells_size m
  obtain ⟨cs, hcs⟩ : ∃ cs, cs = cells m := ⟨_, rfl⟩
  rw [← hcs] at hsz ⊢
  have HCS := Lib.hid hcs
  have HT := Lib.hid hT
  have HZ := Lib.hid h0
  clear hcs hT h0
  go_enter Tryd.func19, Tryd.ntmps19
  go_wp2_with fail
  obtain ⟨w2, hw2⟩ : ∃ W_, W_ = w.alloc (.cells cs 27) := ⟨_, rfl⟩
  rw [← hw2]
  have HK1 : Hid (w2.heap[w.heap.size]? = some (.cells cs 27 (0, 0))) := Lib.hid (by rw [hw2]; exact heap_alloc_new w _)
  have HB : Hid (Below w.heap.size w w2) := Lib.hid (by rw [hw2]; exact below_alloc (Below.refl _ _) _)
  clear hw2
  go_loopw [1] (fun i wr => NextRel w cs m n i wr) (fun i _ => 4096 - (intOf i).toNat)
  case atStart => exact ⟨0, by omega, by norm_cast, by omega, fun i h1 h2 => by omega, HK1.out, HB.out⟩
  case round =>
    obtain ⟨v, hv, rfl, hle, hno, hk, hb⟩ := hrel
    by_cases hlt : v < 4096
    · have hq : v / 64 < 64 := by omega
      have hat := cells_at m hq
      rw [← HCS.out] at hat
      have hcell : wr.cell? ⟨w.heap.size, v / 64, none⟩ = some (.int .u64 (word m (v / 64))) := (blk_cell hk (v / 64)).trans hat
      obtain ⟨W, hW⟩ : ∃ W, W = word m (v / 64) := ⟨_, rfl⟩
      have hWl := word_lt m (v / 64)
      rw [← hW] at hcell hWl
      obtain ⟨x, hx⟩ : ∃ x, x = W / 2 ^ (v % 64) := ⟨_, rfl⟩
      have hxe : (W : Int) / 2 ^ (v % 64) = (x : Int) := by rw [hx]; norm_cast
      have HX := Lib.hid hx
      have HW := Lib.hid hW
      have HNO := Lib.hid hno
      have HK := Lib.hid hk
      have HBb := Lib.hid hb
      have hxl : x < 18446744073709551616 := by rw [hx]; exact Nat.lt_of_le_of_lt (Nat.div_le_self _ _) hWl
      have j0 : (0 : Int) ≤ (v : Int) / 64 := by omega
      have j1 : (v : Int) / 64 < 64 := by omega
      clear hx hW hno hk hb hat
      by_cases hx0 : x = 0
      · subst hx0
        go_wp2_with fail
        exact ⟨⟨(v / 64 + 1) * 64, by omega, by norm_cast, by omega, fun i h1 h2 h3 => next_miss m _ v (by rw [← HW.out]; exact HX.out.symm) (fun i a b => HNO.out i a b (by omega)) i h1 h2, HK.out, HBb.out⟩, by simp [intOf]; omega⟩
      · have hx1 : ((x : Int) != 0) = true := by simp; omega
        have hc := (ctz_bit x hx0 hxl).2.2
        have hhit := next_hit m n v x (by rw [HX.out, HW.out]) hx0 hlt hle (fun i a b => HNO.out i a b (by omega))
        have htz := Tryd.bits_TrailingZeros64 x hxl wr (fun _ => tab_below HT.out HBb.out HZ.out)
        obtain ⟨c, hcc⟩ : ∃ c, c = Lib.ctz 64 x := ⟨_, rfl⟩
        rw [← hcc] at hc hhit htz
        have HH := Lib.hid hhit
        have HTZ := Lib.hid htz
        clear hcc hhit htz
        go_wp2_with fail
        refine HTZ.out.mono ?_
        rintro e w3 ⟨rfl, rfl⟩
        go_wp2_with fail
        go_ret
        exact ⟨by rw [HH.out]; rfl, HBb.out⟩
    · have hnn := next_none m n (fun i a b => hno i a (by omega) b)
      have HH := Lib.hid hnn
      have HBb := Lib.hid hb
      clear hnn hb hno hk
      go_wp2_with fail
      go_ret
      exact ⟨by rw [HH.out]; rfl, HBb.out⟩
end Go.Proofs.YtjcppnleoahaiaaDoor.P
