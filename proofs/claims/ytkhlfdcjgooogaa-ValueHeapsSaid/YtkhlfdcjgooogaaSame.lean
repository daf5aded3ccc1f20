/- sameLists at two heaps' arrays that are the same; the state of both heaps in ValueHeaps. -/
import Derived.Test.YtkhlfdcjgooogaaOne
import Derived.BigQuiet
namespace Go.Proofs.Ytkhlfdcjgooogaa.P
open Go.RowKit Go.Proofs.YtkhlfdcjgooogaaW.PrintWords Go.Proofs.YtkhlfdcjgooogaaW.PrintLast Go.Proofs.YtkhlfdcjgooogaaW.PrintMore
set_option linter.unusedVariables false
set_option linter.unusedSimpArgs false
theorem d0_step {w wr : World} (h : Drawn0 w wr) (n : Nat) : Drawn0 w (wr.drewN n) := h.step n
theorem cell_d0 {w wr : World} (h : Drawn0 w wr) {a : Addr} {v : Value} (hc : w.cell? a = some v) : wr.cell? a = some v := pw_cell_below h.below hc
set_option maxRecDepth 100000 in
set_option maxHeartbeats 4000000 in
theorem same_some {g1 g2 c1 c2 : Nat} {L : List (List Int)} {d1 q1 d2 q2 : Nat → Nat} {w : World} (hl : L.length ≤ 1000000) (hls : ∀ j, (L.getD j []).length ≤ 1000000)
    (h1 : ∀ j, j < L.length → w.cell? ⟨g1, j, none⟩ = some (.slice (some ⟨d1 j, 0, none⟩) (L.getD j []).length (q1 j)) ∧ ∀ i, i < (L.getD j []).length → w.cell? ⟨d1 j, i, none⟩ = some (.int .i64 ((L.getD j []).getD i 0)))
    (h2 : ∀ j, j < L.length → w.cell? ⟨g2, j, none⟩ = some (.slice (some ⟨d2 j, 0, none⟩) (L.getD j []).length (q2 j)) ∧ ∀ i, i < (L.getD j []).length → w.cell? ⟨d2 j, i, none⟩ = some (.int .i64 ((L.getD j []).getD i 0))) :
    Calls Try.prog 27 #[.slice (some ⟨g1, 0, none⟩) L.length c1, .slice (some ⟨g2, 0, none⟩) L.length c2] w fun e w' => e = .returned (.bool true) ∧ Below w.heap.size w w' := by
  obtain ⟨m, hm⟩ : ∃ m, m = L.length := ⟨_, rfl⟩
  have H1 := Lib.hid h1
  have H2 := Lib.hid h2
  have HM := Lib.hid hm
  have HLS := Lib.hid hls
  rw [← hm] at hl ⊢
  clear h1 h2 hm hls
  go_enter Try.func27, Try.ntmps27
  go_wp2_with fail
  go_loopw [5] (fun i wr => ∃ k : Nat, k ≤ m ∧ i = .int .i64 k ∧ Drawn0 w wr) (fun i _ => m - (intOf i).toNat)
  case atStart => exact ⟨0, Nat.zero_le _, rfl, Drawn0.refl _⟩
  case round =>
    obtain ⟨k, hk, rfl, hd⟩ := hrel
    by_cases hlt : k < m
    · obtain ⟨l, hle⟩ : ∃ l, l = L.getD k [] := ⟨_, rfl⟩
      obtain ⟨a1, ha1⟩ : ∃ a, a = d1 k := ⟨_, rfl⟩
      obtain ⟨a2, ha2⟩ : ∃ a, a = d2 k := ⟨_, rfl⟩
      obtain ⟨b1, hb1⟩ : ∃ a, a = q1 k := ⟨_, rfl⟩
      obtain ⟨b2, hb2⟩ : ∃ a, a = q2 k := ⟨_, rfl⟩
      obtain ⟨n, hn⟩ : ∃ n, n = l.length := ⟨_, rfl⟩
      obtain ⟨x1, y1⟩ := H1.out k (by rw [← HM.out]; exact hlt)
      obtain ⟨x2, y2⟩ := H2.out k (by rw [← HM.out]; exact hlt)
      have hls := HLS.out k
      rw [← hle] at x1 y1 x2 y2 hls
      rw [← ha1] at x1 y1
      rw [← ha2] at x2 y2
      rw [← hb1] at x1
      rw [← hb2] at x2
      rw [← hn] at x1 y1 x2 y2 hls
      have k1 := cell_d0 hd x1
      have k2 := cell_d0 hd x2
      have i0 : (0 : Int) ≤ (k : Int) := by omega
      have i1 : (k : Int) < (m : Int) := by omega
      have HD := Lib.hid hd
      have X1 := Lib.hid x1
      have X2 := Lib.hid x2
      have Y1 := Lib.hid y1
      have Y2 := Lib.hid y2
      clear hle ha1 ha2 hb1 hb2 hn x1 x2 y1 y2 hd
      go_wp2_with fail
      go_quiet (fail)
      go_wp2_with fail
      clear k1 k2
      go_loopw [6] (fun j wj => ∃ q : Nat, q ≤ n ∧ j = .int .i64 q ∧ Drawn0 w wj) (fun j _ => n - (intOf j).toNat)
      case atStart => exact ⟨0, Nat.zero_le _, rfl, d0_step HD.out _⟩
      case round =>
        obtain ⟨q, hq, rfl, hd2⟩ := hrel
        have k1 := cell_d0 hd2 X1.out
        have k2 := cell_d0 hd2 X2.out
        have HD2 := Lib.hid hd2
        by_cases hq2 : q < n
        · obtain ⟨x, hx⟩ : ∃ x, x = l.getD q 0 := ⟨_, rfl⟩
          have z1 := cell_d0 hd2 (Y1.out q hq2)
          have z2 := cell_d0 hd2 (Y2.out q hq2)
          rw [← hx] at z1 z2
          have j0 : (0 : Int) ≤ (q : Int) := by omega
          have j1 : (q : Int) < (n : Int) := by omega
          clear hx hd2
          go_wp2_with fail
          go_quiet (fail)
          go_wp2_with fail
          go_roundw
          case rel => exact ⟨q + 1, by omega, by go_num, d0_step HD2.out _⟩
          case measure => simp [intOf]; omega
        · clear hd2
          go_wp2_with fail
          go_roundw
          case rel => exact ⟨k + 1, by omega, by go_num, HD2.out⟩
          case measure => simp [intOf]; omega
    · have HD := Lib.hid hd
      clear hd
      go_wp2_with fail
      go_ret
      exact ⟨rfl, HD.out.below⟩
set_option maxRecDepth 100000 in
set_option maxHeartbeats 4000000 in
theorem same_none (A1 A2 : Option Addr) (c1 c2 : Nat) (w : World) : Calls Try.prog 27 #[.slice A1 0 c1, .slice A2 0 c2] w fun e w' => e = .returned (.bool true) ∧ Below w.heap.size w w' := by
  go_enter Try.func27, Try.ntmps27
  go_wp2_with fail
  go_loopw [5] (fun i wr => i = .int .i64 0 ∧ wr = w) (fun _ _ => 0)
  case atStart => exact ⟨rfl, rfl⟩
  case round =>
    obtain ⟨rfl, rfl⟩ := hrel
    go_wp2_with fail
    go_ret
    exact ⟨rfl, Below.refl _ _⟩
theorem arrs_read {w : World} {ok : Nat → Prop} {v : Value} {gs : List (Nat × Nat)} {L : List (List Int)} {g : Nat} (h : Arrs w ok v gs L) (hr : ∀ j (hj : j < gs.length) (hj' : j < L.length), w.cell? ⟨g, j, none⟩ = some (.slice (some ⟨gs[j].1, 0, none⟩) L[j].length gs[j].2)) :
    ∀ j, j < L.length → w.cell? ⟨g, j, none⟩ = some (.slice (some ⟨(gs.getD j (0, 0)).1, 0, none⟩) (L.getD j []).length (gs.getD j (0, 0)).2) ∧ ∀ i, i < (L.getD j []).length → w.cell? ⟨(gs.getD j (0, 0)).1, i, none⟩ = some (.int .i64 ((L.getD j []).getD i 0)) := by
  intro j hj
  have hj' : j < gs.length := h.len ▸ hj
  obtain ⟨_, cur, hb2, hc2⟩ := h.at_ j hj' hj
  rw [getD_lt _ _ hj, getD_lt _ _ hj']
  exact ⟨hr j hj' hj, fun i hi => row_cell hb2 hc2 hi⟩
theorem same_arrs {w : World} {ok1 ok2 : Nat → Prop} {v1 v2 : Value} {gs1 gs2 : List (Nat × Nat)} {L : List (List Int)} (h1 : Arrs w ok1 v1 gs1 L) (h2 : Arrs w ok2 v2 gs2 L) (hc : cellsOf L ≤ 262144) :
    Calls Try.prog 27 #[v1, v2] w fun e w' => e = .returned (.bool true) ∧ Below w.heap.size w w' := by
  obtain ⟨A1, c1, rfl, hr1⟩ := h1.get
  obtain ⟨A2, c2, rfl, hr2⟩ := h2.get
  obtain ⟨hl, hls⟩ := lens hc
  rcases hr1 with h0 | ⟨g1, rfl, _, hr1⟩
  · have e : L = [] := List.length_eq_zero_iff.1 h0
    subst e
    exact same_none _ _ _ _ _
  · rcases hr2 with h0 | ⟨g2, rfl, _, hr2⟩
    · have e : L = [] := List.length_eq_zero_iff.1 h0
      subst e
      exact same_none _ _ _ _ _
    · exact same_some hl (fun j => by have := cellsOf_at L j; omega) (arrs_read h1 hr1) (arrs_read h2 hr2)
/-- Both heaps, alike, made since w. -/
structure Eqs (w wr : World) (Bh Bm : Nat) (okh okm : Nat → Prop) (L : List (List Int)) : Prop where
  two : Two wr Bh Bm okh okm L L
  sh : ∀ k, okh k → w.heap.size ≤ k
  sm : ∀ k, okm k → w.heap.size ≤ k
  bel : Below w.heap.size w wr
variable {w wr w' : World} {Bh Bm : Nat} {okh okm okh' okm' : Nat → Prop} {L : List (List Int)}
theorem Eqs.below (h : Eqs w wr Bh Bm okh okm L) (hb : Below wr.heap.size wr w') : Eqs w w' Bh Bm okh okm L := ⟨h.two.below hb, h.sh, h.sm, h.bel.trans (hb.mono h.bel.size)⟩
theorem Eqs.act {x : A8} (h : Eqs w wr Bh Bm okh okm L) (R : Run wr okh okm w' Bh Bm okh' okm' (actL L x) (actL L x)) : Eqs w w' Bh Bm okh' okm' (actL L x) :=
  ⟨R.two, fun k hk => (R.sh k hk).elim (h.sh k) (fun h2 => Nat.le_trans h.bel.size h2), fun k hk => (R.sm k hk).elim (h.sm k) (fun h2 => Nat.le_trans h.bel.size h2), h.bel.trans (R.chg.below h.bel.size (fun x hx ho => by rcases ho with ho | ho; have := h.sh x ho; omega; have := h.sm x ho; omega))⟩
theorem e_cells (h : Eqs w wr Bh Bm okh okm L) : Calls Try.prog 18 #[.pointer (some ⟨Bh, 0, none⟩)] wr fun e w' => e = .returned (.int .i64 (cellsOf L)) ∧ Below wr.heap.size wr w' :=
  (hcells h.two.hh h.two.ch).mono fun e w' hh => ⟨hh.1, by rw [hh.2]; exact Below.refl _ _⟩
theorem e_mcells (h : Eqs w wr Bh Bm okh okm L) : Calls Try.prog 25 #[.pointer (some ⟨Bm, 0, none⟩)] wr fun e w' => e = .returned (.int .i64 (cellsOf L)) ∧ Below wr.heap.size wr w' := by
  obtain ⟨_, v, gs, hB, hA⟩ := h.two.hm
  have key : Calls Try.prog 25 #[.pointer (some ⟨Bm, 0, none⟩)] wr fun e w' => e = .returned (.int .i64 (cellsOf L)) ∧ w' = wr := by
    obtain ⟨A, c, rfl, hr⟩ := hA.get
    rcases hr with h0 | ⟨g, rfl, hg, hr⟩
    · have e : L = [] := List.length_eq_zero_iff.1 h0
      subst e
      exact rcells0 hB
    · refine rcells (ds := fun j => (gs.getD j (0, 0)).1) (qs := fun j => (gs.getD j (0, 0)).2) hB (fun j hj => ?_) h.two.ch
      have hj' : j < gs.length := hA.len ▸ hj
      rw [getD_lt _ _ hj, getD_lt _ _ hj']
      exact hr j hj' hj
  exact key.mono fun e w' hh => ⟨hh.1, by rw [hh.2]; exact Below.refl _ _⟩
theorem e_len (h : Eqs w wr Bh Bm okh okm L) (a n : Int) : Calls Try.prog 22 #[.pointer (some ⟨Bh, 0, none⟩), .agg #[.int .i64 a, .int .i64 n]] wr fun e w' => e = .returned (.int .i64 (lenF L a n)) ∧ Below wr.heap.size wr w' := hlen a n h.two.hh h.two.ch
theorem e_mlen (h : Eqs w wr Bh Bm okh okm L) (a n : Int) : Calls Try.prog 26 #[.pointer (some ⟨Bm, 0, none⟩), .agg #[.int .i64 a, .int .i64 n]] wr fun e w' => e = .returned (.int .i64 (lenF L a n)) ∧ Below wr.heap.size wr w' := mlen a n h.two.hm h.two.cm
/-- The document's list header. -/
theorem e_head (h : Eqs w wr Bh Bm okh okm L) : ∃ v gs, wr.heap[Bm]? = some (.cells #[v] 51 (0, 0)) ∧ Arrs wr okm v gs L := h.two.hm.arrs
end Go.Proofs.Ytkhlfdcjgooogaa.P
