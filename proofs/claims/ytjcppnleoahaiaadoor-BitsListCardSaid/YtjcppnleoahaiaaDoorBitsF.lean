/- bits.Set: With, Without and Has of any number; Of a list. -/
import Derived.Test.YtjcppnleoahaiaaDoorBitsC
namespace Go.Proofs.YtjcppnleoahaiaaDoor.P
open Go.RowKit Go.Proofs.YtjcppnleoahaiaaDoorW.PrintWords Go.Proofs.YtjcppnleoahaiaaDoorW.PrintLast Go.Proofs.YtjcppnleoahaiaaDoorW.PrintMore
set_option linter.unusedVariables false
set_option linter.unusedSimpArgs false
def withI (m : Nat → Bool) (n : Int) (k : Nat) : Bool := m k || decide ((k : Int) = n)
def outI (m : Nat → Bool) (n : Int) (k : Nat) : Bool := m k && !decide ((k : Int) = n)
def hasI (m : Nat → Bool) (n : Int) : Bool := decide (0 ≤ n ∧ n < 4096) && m n.toNat
theorem with_any (m : Nat → Bool) (n : Int) (w : World) : Calls Tryd.prog 13 #[.agg (cells m), .int .i64 n] w fun e w' => e = .returned (.agg (cells (withI m n))) ∧ Below w.heap.size w w' := by
  by_cases h : 0 ≤ n ∧ n < 4096
  · obtain ⟨k, rfl⟩ : ∃ k : Nat, n = k := ⟨n.toNat, by omega⟩
    have e : cells (withI m k) = cells (withF m k) := cells_ext (fun j _ => by
      have e : ((j : Int) = k) ↔ j = k := by omega
      simp [withI, withF, e])
    rw [e]
    exact with_yes m k w (by omega)
  · have e : cells (withI m n) = cells m := cells_ext (fun j hj => by
      have : ¬ (j : Int) = n := by omega
      simp [withI, this])
    rw [e]
    exact with_no m n w h
theorem out_any (m : Nat → Bool) (n : Int) (w : World) : Calls Tryd.prog 15 #[.agg (cells m), .int .i64 n] w fun e w' => e = .returned (.agg (cells (outI m n))) ∧ Below w.heap.size w w' := by
  by_cases h : 0 ≤ n ∧ n < 4096
  · obtain ⟨k, rfl⟩ : ∃ k : Nat, n = k := ⟨n.toNat, by omega⟩
    have e : cells (outI m k) = cells (outF m k) := cells_ext (fun j _ => by
      have e : ((j : Int) = k) ↔ j = k := by omega
      simp [outI, outF, e])
    rw [e]
    exact out_yes m k w (by omega)
  · have e : cells (outI m n) = cells m := cells_ext (fun j hj => by
      have : ¬ (j : Int) = n := by omega
      simp [outI, this])
    rw [e]
    exact out_no m n w h
theorem has_any (m : Nat → Bool) (n : Int) (w : World) : Calls Tryd.prog 17 #[.agg (cells m), .int .i64 n] w fun e w' => e = .returned (.bool (hasI m n)) ∧ Below w.heap.size w w' := by
  by_cases h : 0 ≤ n ∧ n < 4096
  · obtain ⟨k, rfl⟩ : ∃ k : Nat, n = k := ⟨n.toNat, by omega⟩
    have e : hasI m k = m k := by simp [hasI]; omega
    rw [e]
    exact has_yes m k w (by omega)
  · have e : hasI m n = false := by simp [hasI, h]
    rw [e]
    exact has_no m n w h
/-- A list's numbers. -/
def ofF (l : List Int) (k : Nat) : Bool := decide ((k : Int) ∈ l)
theorem of_next (l : List Int) (k : Nat) (h : k < l.length) : cells (withI (ofF (l.take k)) l[k]) = cells (ofF (l.take (k + 1))) := cells_ext (fun j _ => by
  rw [List.take_succ_eq_append_getElem h]
  simp only [withI, ofF, List.mem_append, List.mem_singleton, Bool.decide_or])
theorem word_none (i : Nat) : word (fun _ => false) i = 0 := by
  apply Nat.eq_of_testBit_eq
  intro j
  rw [word_bit]
  simp
theorem noughts_eq : cells (fun _ => false) = noughts := by
  unfold cells
  simp only [word_none]
  rfl
theorem of_none : cells (ofF ([] : List Int)) = noughts := by
  have e : cells (ofF ([] : List Int)) = cells (fun _ => false) := cells_ext (fun j _ => by simp [ofF])
  exact e.trans noughts_eq
theorem ints_at {w : World} {A : Option Addr} {l : List Int} (h : Kd.C (Kd.int .i64) w A l.length l) (k : Nat) (hk : k < l.length) : ∃ b off, A = some ⟨b, off, none⟩ ∧ b < w.heap.size ∧ w.cell? ⟨b, off + k, none⟩ = some (.int .i64 l[k]) := by
  obtain ⟨ad, c, rfl, hcl, hK, hc⟩ := Kd.C_get h 0 (k : Int) (by omega) (by omega)
  have e : c = [.int .i64 l[k]] := by
    have h2 : c = [.int .i64 (l.getD (k : Int).toNat 0)] := hK
    rw [h2]
    simp [hk]
  subst e
  have h0 := hc 0 _ rfl
  obtain ⟨ad', c', he, _, hK', hc'⟩ := Kd.C_get h 0 0 (by omega) (by omega)
  cases he
  have e' : c' = [.int .i64 (l.getD (0 : Int).toNat 0)] := hK'
  subst e'
  have h0' := hc' 0 _ rfl
  obtain ⟨_, _, _, _, hs⟩ := World.shape?_of_cell? h0'
  have hs' : ad.spot = none := by simpa [Addr.add] using hs
  obtain ⟨b, off, spot⟩ := ad
  simp only at hs'
  subst hs'
  have hlt := World.block_lt_of_cell? w _ h0
  have e1 : (Kd.int .i64).sz = 1 := rfl
  have ea : ∀ n, (⟨b, off, none⟩ : Addr).add n = ⟨b, off + n, none⟩ := fun n => by unfold Addr.add; simp
  simp only [ea, e1, Int.toNat_natCast, Nat.mul_one, Nat.add_zero] at h0 hlt
  exact ⟨b, off, rfl, hlt, h0⟩
/-- What stands at a round's head. -/
def OfRel (w : World) (l : List Int) (i : Value) (wr : World) : Prop := ∃ k : Nat, k ≤ l.length ∧ i = .int .i64 k ∧ wr.heap[w.heap.size]? = some (.cells noughts 27 (0, 0)) ∧ wr.heap[w.heap.size + 1]? = some (.cells (cells (ofF (l.take k))) 27 (0, 0)) ∧ Below w.heap.size w wr
set_option maxRecDepth 100000 in
set_option maxHeartbeats 4000000 in
theorem of_any (A : Option Addr) (c : Nat) (l : List Int) (w : World) (hr : Kd.C (Kd.int .i64) w A l.length l) :
    Calls Tryd.prog 10 #[.slice A l.length c] w fun e w' => e = .returned (.agg (cells (ofF l))) ∧ Below w.heap.size w w' := by
  have HRD := Lib.hid (fun k hk => ints_at hr k hk)
  have HLEN := hr.2.1
  obtain ⟨N, hN⟩ : ∃ N, N = l.length := ⟨_, rfl⟩
  rw [← hN] at HLEN ⊢
  have HN := Lib.hid hN
  clear hN hr
  go_enter Tryd.func10, Tryd.ntmps10
  go_wp2_with fail
  obtain ⟨w2, hw2⟩ : ∃ W_, W_ = (w.alloc (.cells noughts 27)).alloc (.cells noughts 27) := ⟨_, rfl⟩
  unfold noughts at hw2
  rw [← hw2]
  have HK1 : Hid (w2.heap[w.heap.size]? = some (.cells noughts 27 (0, 0))) := Lib.hid (by rw [hw2]; exact blk_alloc (heap_alloc_new w _) _)
  have HK2 : Hid (w2.heap[w.heap.size + 1]? = some (.cells noughts 27 (0, 0))) := Lib.hid (by rw [hw2]; exact blk_new1 w _ _)
  have HB : Hid (Below w.heap.size w w2) := Lib.hid (by rw [hw2]; exact below_alloc (below_alloc (Below.refl _ _) _) _)
  clear hw2
  go_loopw [8] (fun i wr => OfRel w l i wr) (fun i _ => N - (intOf i).toNat)
  case atStart => exact ⟨0, Nat.zero_le _, rfl, HK1.out, by rw [List.take_zero, of_none]; exact HK2.out, HB.out⟩
  case round =>
    obtain ⟨k, hk, rfl, h1, h2, hb⟩ := hrel
    rw [← HN.out] at hk
    by_cases hlt : k < N
    · obtain ⟨b, off, rfl, hblt, hcell⟩ := HRD.out k (by rw [← HN.out]; exact hlt)
      have hat : wr.cell? ⟨b, off + k, none⟩ = some (.int .i64 (l[k]'(by rw [← HN.out]; exact hlt))) := (hb.cell (p := ⟨b, off + k, none⟩) hblt).trans hcell
      obtain ⟨x, hx⟩ : ∃ x, x = l[k]'(by rw [← HN.out]; exact hlt) := ⟨_, rfl⟩
      rw [← hx] at hat
      have HX := Lib.hid hx
      have H1 := Lib.hid h1
      have H2 := Lib.hid h2
      have HB2 := Lib.hid hb
      clear hcell hx h1 h2 hb
      have hsz := cells_size (ofF (l.take k))
      have hcall := with_any (ofF (l.take k)) x
      obtain ⟨m', hm'⟩ : ∃ m', m' = withI (ofF (l.take k)) x := ⟨_, rfl⟩
      have hnx : Hid (cells m' = cells (ofF (l.take (k + 1)))) := Lib.hid (by rw [hm', HX.out]; exact of_next l k (by rw [← HN.out]; exact hlt))
      have hsz2 := cells_size m'
      have hone2 := cells_one m'
      rw [← hm'] at hcall
      obtain ⟨cs, hcs⟩ : ∃ cs, cs = cells (ofF (l.take k)) := ⟨_, rfl⟩
      obtain ⟨cs2, hcs2⟩ : ∃ cs, cs = cells m' := ⟨_, rfl⟩
      rw [← hcs] at hcall H2 hsz
      rw [← hcs2] at hcall hnx hsz2 hone2
      have hi : (Tryd.prog.info? 27).map (·.size) = some cs.size := by rw [hsz]; kernel_rfl
      have hi2 : (Tryd.prog.info? 27).map (·.size) = some cs2.size := by rw [hsz2]; kernel_rfl
      have i0 : (0 : Int) ≤ (k : Int) := by omega
      have i1 : (k : Int) < (N : Int) := by omega
      have HCALL := Lib.hid hcall
      clear hcs hcs2 hm' hcall
      go_wp2_with (((with_reducible refine gate_dst (N := 12) rfl ?_); refine Stp.out ?_))
      unfold Stp
      refine wpList_load_row rfl 27 (.tmp 3) rfl (w.heap.size + 1) rfl 27 cs (0, 0) _ H2.out Tryd.underlying27 rfl hi ?_
      go_wp2_with fail
      refine (HCALL.out wr).mono ?_
      rintro e w3 ⟨rfl, hb3⟩
      have H1b := Lib.hid (blk_below H1.out hb3)
      have H2b := Lib.hid (blk_below H2.out hb3)
      have HB3 := Lib.hid (below_step HB2.out hb3)
      clear hb3 HCALL
      go_wp2_with (refine wpList_store_row rfl 27 (.tmp 3) (.tmp 14) rfl (w.heap.size + 1) cs2 rfl rfl 27 cs H2b.out hi2 (by rw [hsz2, hsz]) hone2 ?_)
      go_roundw
      case rel => exact ⟨k + 1, by rw [← HN.out]; omega, by norm_cast, (row_other (by omega)).trans H1b.out, by rw [blk_row H2b.out, hnx.out], below_row HB3.out (by omega)⟩
      case measure => simp [intOf]; omega
    · obtain rfl : k = N := by omega
      have hall : Hid (cells (ofF (l.take k)) = cells (ofF l)) := Lib.hid (by rw [HN.out, List.take_length])
      rw [hall.out] at h2
      have hsz2 := cells_size (ofF l)
      have hone2 := cells_one (ofF l)
      obtain ⟨cs2, hcs2⟩ : ∃ cs, cs = cells (ofF l) := ⟨_, rfl⟩
      rw [← hcs2] at h2 hsz2 hone2
      have HC2 := Lib.hid hcs2
      have hi2 : (Tryd.prog.info? 27).map (·.size) = some cs2.size := by rw [hsz2]; kernel_rfl
      have H1 := Lib.hid h1
      have H2 := Lib.hid h2
      have HB2 := Lib.hid hb
      clear hcs2 h1 h2 hb hall
      go_wp2_with (((with_reducible refine gate_dst (N := 16) rfl ?_); refine Stp.out ?_))
      unfold Stp
      refine wpList_load_row rfl 27 (.tmp 3) rfl (w.heap.size + 1) rfl 27 cs2 (0, 0) _ H2.out Tryd.underlying27 rfl hi2 ?_
      refine wpList_store_row rfl 27 (.tmp 2) (.tmp 16) rfl w.heap.size cs2 rfl rfl 27 noughts H1.out hi2 (by rw [hsz2]; rfl) hone2 ?_
      go_wp2_with fail
      refine bodyPost_ret (results_cell_row rfl _ _ w.heap.size 27 cs2 (0, 0) _ rfl (blk_row H1.out) Tryd.underlying27 rfl hi2) rfl ?_
      exact ⟨by rw [HC2.out], below_row HB2.out (Nat.le_refl _)⟩
end Go.Proofs.YtjcppnleoahaiaaDoor.P
