/- ValueKeeps: the walk of the statement's function (all of it). -/
import Derived.Test.YtkhlfdcjgooogaaKeepsA
namespace Go.Proofs.Ytkhlfdcjgooogaa.P
open Go.RowKit Go.Proofs.YtkhlfdcjgooogaaW.PrintWords Go.Proofs.YtkhlfdcjgooogaaW.PrintLast Go.Proofs.YtkhlfdcjgooogaaW.PrintMore
set_option linter.unusedVariables false
set_option linter.unusedSimpArgs false
theorem blk_new3 (X : World) (o o' o2 o3 : Obj) : ((((X.alloc o).alloc o').alloc o2).alloc o3).heap[X.heap.size + 1 + 1 + 1]? = some o3 := by
  have h := heap_alloc_new (((X.alloc o).alloc o').alloc o2) o3
  have e : (((X.alloc o).alloc o').alloc o2).heap.size = X.heap.size + 1 + 1 + 1 := by simp
  rwa [e] at h
set_option maxRecDepth 100000 in
set_option maxHeartbeats 4000000 in
theorem keeps_long (A : Option Addr) (c : Nat) (l : List A8) (a0 a1 i0 i1 n b0 b1 k0 k1 : Int) (w : World) (hl : l.length ≤ 9223372036854775807) (h : 30 < l.length) :
    Calls Try.prog 6 #[.slice A l.length c, .agg #[.int .i64 a0, .int .i64 a1], .agg #[.int .i64 i0, .int .i64 i1], .int .i64 n, .agg #[.int .i64 b0, .int .i64 b1], .agg #[.int .i64 k0, .int .i64 k1]] w fun e w' => e = .returned (.bool true) ∧ Below w.heap.size w w' := by
  have hb0 : Below w.heap.size w ((((w.alloc (.cells #[.int .i64 a0, .int .i64 a1] 23)).alloc (.cells #[.int .i64 i0, .int .i64 i1] 23)).alloc (.cells #[.int .i64 b0, .int .i64 b1] 23)).alloc (.cells #[.int .i64 k0, .int .i64 k1] 23)) := below_alloc (below_alloc (below_alloc (below_alloc (Below.refl _ _) _) _) _) _
  go_enter Try.func6, Try.ntmps6
  go_wp2_with fail
  refine (runnellaw9_shown.calls true _ rfl).mono ?_
  rintro e w1 ⟨rfl, hb⟩
  go_wp2_with fail
  go_ret
  exact ⟨rfl, below_step hb0 hb⟩
set_option maxRecDepth 100000 in
set_option maxHeartbeats 16000000 in
theorem keeps_walk (A : Option Addr) (c : Nat) (l : List A8) (a0 a1 i0 i1 n b0 b1 k0 k1 : Int) (w : World) (hr : Kd.C k8 w A l.length l) (hl : l.length ≤ 30) :
    Calls Try.prog 6 #[.slice A l.length c, .agg #[.int .i64 a0, .int .i64 a1], .agg #[.int .i64 i0, .int .i64 i1], .int .i64 n, .agg #[.int .i64 b0, .int .i64 b1], .agg #[.int .i64 k0, .int .i64 k1]] w fun e w' => e = .returned (.bool true) ∧ Below w.heap.size w w' := by
  have hb0 : Below w.heap.size w ((((w.alloc (.cells #[.int .i64 a0, .int .i64 a1] 23)).alloc (.cells #[.int .i64 i0, .int .i64 i1] 23)).alloc (.cells #[.int .i64 b0, .int .i64 b1] 23)).alloc (.cells #[.int .i64 k0, .int .i64 k1] 23)) := below_alloc (below_alloc (below_alloc (below_alloc (Below.refl _ _) _) _) _) _
  have HRD := Lib.hid (acts_at hr)
  obtain ⟨m, hm⟩ : ∃ m, m = l.length := ⟨_, rfl⟩
  rw [← hm] at hl ⊢
  have HM := Lib.hid hm
  clear hr hm
  go_enter Try.func6, Try.ntmps6
  go_wp2_with fail
  refine (runnellaw9_shown.calls true _ rfl).mono ?_
  rintro e w1 ⟨rfl, hb⟩
  have KA : Hid (w1.heap[w.heap.size]? = some (.cells #[.int .i64 a0, .int .i64 a1] 23 (0, 0))) := Lib.hid (blk_below (blk_alloc (blk_alloc (blk_alloc (heap_alloc_new w _) _) _) _) hb)
  have KI : Hid (w1.heap[w.heap.size + 1]? = some (.cells #[.int .i64 i0, .int .i64 i1] 23 (0, 0))) := Lib.hid (blk_below (blk_alloc (blk_alloc (blk_new1 w _ _) _) _) hb)
  have KB : Hid (w1.heap[w.heap.size + 1 + 1]? = some (.cells #[.int .i64 b0, .int .i64 b1] 23 (0, 0))) := Lib.hid (blk_below (blk_alloc (blk_new2 w _ _ _) _) hb)
  have KK : Hid (w1.heap[w.heap.size + 1 + 1 + 1]? = some (.cells #[.int .i64 k0, .int .i64 k1] 23 (0, 0))) := Lib.hid (blk_below (blk_new3 w _ _ _ _) hb)
  have hle1 : w.heap.size + 4 ≤ w1.heap.size := by have := hb.size; simp at this; omega
  have HB1 : Hid (Below w.heap.size w w1) := Lib.hid (below_step hb0 hb)
  clear hb hb0
  go_wp2_with fail
  obtain ⟨w2, hw2⟩ : ∃ W_, W_ = w1.alloc (.cells #[.slice none 0 0, .int .i64 0] 47) := ⟨_, rfl⟩
  rw [← hw2]
  obtain ⟨Bh, hBh⟩ : ∃ Bh, Bh = w1.heap.size := ⟨_, rfl⟩
  rw [← hBh]
  have R0 : Hid (H1 w1 w2 Bh (fun k => k = Bh) []) := Lib.hid ⟨by rw [hw2, hBh]; exact HA.empty (heap_alloc_new _ _), fun k hk => by rw [hk, hw2, hBh]; exact ⟨Nat.le_refl _, by simp⟩, by decide, by rw [hw2]; exact below_alloc (Below.refl _ _) _⟩
  clear hw2 hBh
  go_loopw [15] (fun j wr => ActRel w1 Bh m j wr) (fun j _ => m - (intOf j).toNat)
  case atStart => exact ⟨0, Nat.zero_le _, rfl, _, _, R0.out⟩
  case round =>
    obtain ⟨k, hk, rfl, okh, L, hR⟩ := hrel
    have R := Lib.hid hR
    clear hR
    by_cases hlt : k < m
    · obtain ⟨b, off, x, rfl, hblt, hcell⟩ := HRD.out k (by rw [← HM.out]; exact hlt)
      obtain ⟨o, n1, ⟨a, an⟩, ⟨ai, ii⟩, v, vn⟩ := x
      have hbel : Below w.heap.size w wr := HB1.out.trans (R.out.bel.mono HB1.out.size)
      have hblt' : b < wr.heap.size := Nat.lt_of_lt_of_le hblt hbel.size
      have q0 : wr.cell? ⟨b, off + k * 8, none⟩ = some (.int .i64 o) := (hbel.cell (p := ⟨b, off + k * 8 + 0, none⟩) hblt).trans (hcell 0 _ rfl)
      have q1 : wr.cell? ⟨b, off + k * 8 + 1, none⟩ = some (.int .i64 n1) := (hbel.cell (p := ⟨b, off + k * 8 + 1, none⟩) hblt).trans (hcell 1 _ rfl)
      have q2 : wr.cell? ⟨b, off + k * 8 + 2, none⟩ = some (.int .i64 a) := (hbel.cell (p := ⟨b, off + k * 8 + 2, none⟩) hblt).trans (hcell 2 _ rfl)
      have q3 : wr.cell? ⟨b, off + k * 8 + 3, none⟩ = some (.int .i64 an) := (hbel.cell (p := ⟨b, off + k * 8 + 3, none⟩) hblt).trans (hcell 3 _ rfl)
      have q4 : wr.cell? ⟨b, off + k * 8 + 4, none⟩ = some (.int .i64 ai) := (hbel.cell (p := ⟨b, off + k * 8 + 4, none⟩) hblt).trans (hcell 4 _ rfl)
      have q5 : wr.cell? ⟨b, off + k * 8 + 5, none⟩ = some (.int .i64 ii) := (hbel.cell (p := ⟨b, off + k * 8 + 5, none⟩) hblt).trans (hcell 5 _ rfl)
      have q6 : wr.cell? ⟨b, off + k * 8 + 6, none⟩ = some (.int .i64 v) := (hbel.cell (p := ⟨b, off + k * 8 + 6, none⟩) hblt).trans (hcell 6 _ rfl)
      have q7 : wr.cell? ⟨b, off + k * 8 + 7, none⟩ = some (.int .i64 vn) := (hbel.cell (p := ⟨b, off + k * 8 + 7, none⟩) hblt).trans (hcell 7 _ rfl)
      clear hcell hbel
      go_wp2_with fail
      refine (h1_does (R.out.below (below_alloc (Below.refl _ _) (.cells #[.slice none 0 0] 51))) (Bm := wr.heap.size) (heap_alloc_new _ _) (fun h => by have := (R.out.sub _ h).2; omega) R.out.bel.size (o, n1, (a, an), (ai, ii), v, vn)).mono ?_
      rintro e w3 ⟨⟨b', rfl⟩, okh', hR'⟩
      have HR3 := Lib.hid hR'
      clear hR'
      go_wp2_with fail
      go_roundw
      case rel => exact ⟨k + 1, by omega, by go_num, _, _, HR3.out⟩
      case measure => simp [intOf]; omega
    · have V_a : Hid (Var1 wr okh (w.heap.size) #[.int .i64 a0, .int .i64 a1] 23) := Lib.hid ⟨(R.out.bel.block _ (by omega)).trans KA.out, fun h => by have := (R.out.sub _ h).1; omega⟩
      have V_i : Hid (Var1 wr okh (w.heap.size + 1) #[.int .i64 i0, .int .i64 i1] 23) := Lib.hid ⟨(R.out.bel.block _ (by omega)).trans KI.out, fun h => by have := (R.out.sub _ h).1; omega⟩
      have V_b : Hid (Var1 wr okh (w.heap.size + 1 + 1) #[.int .i64 b0, .int .i64 b1] 23) := Lib.hid ⟨(R.out.bel.block _ (by omega)).trans KB.out, fun h => by have := (R.out.sub _ h).1; omega⟩
      have V_k : Hid (Var1 wr okh (w.heap.size + 1 + 1 + 1) #[.int .i64 k0, .int .i64 k1] 23) := Lib.hid ⟨(R.out.bel.block _ (by omega)).trans KK.out, fun h => by have := (R.out.sub _ h).1; omega⟩
      obtain ⟨L', hL'⟩ : ∃ L', L' = setL L a0 a1 i0 i1 1 n := ⟨_, rfl⟩
      obtain ⟨N_, hN_⟩ : ∃ N_, N_ = cellsOf L := ⟨_, rfl⟩
      have HC1 : Hid (cellsOf L' = N_) := Lib.hid (by rw [hL', hN_]; exact cells_setL L a0 a1 i0 i1 1 n)
      have HC2 : Hid (cellsOf L = N_) := Lib.hid hN_.symm
      clear hN_
      obtain ⟨x0, hx0⟩ : ∃ x0, x0 = getK L a0 a1 i0 i1 := ⟨_, rfl⟩
      obtain ⟨x1, hx1⟩ : ∃ x1, x1 = getN L a0 a1 i0 i1 := ⟨_, rfl⟩
      obtain ⟨y0, hy0⟩ : ∃ y0, y0 = getK L b0 b1 k0 k1 := ⟨_, rfl⟩
      obtain ⟨y1, hy1⟩ : ∃ y1, y1 = getN L b0 b1 k0 k1 := ⟨_, rfl⟩
      obtain ⟨f, hf⟩ : ∃ f, f = wrongF L b0 b1 k0 k1 := ⟨_, rfl⟩
      obtain ⟨z0, hz0⟩ : ∃ z0, z0 = getK L' b0 b1 k0 k1 := ⟨_, rfl⟩
      obtain ⟨z1, hz1⟩ : ∃ z1, z1 = getN L' b0 b1 k0 k1 := ⟨_, rfl⟩
      have HG2 : Hid (getK L b0 b1 k0 k1 = y0 ∧ getN L b0 b1 k0 k1 = y1 ∧ wrongF L b0 b1 k0 k1 = f) := Lib.hid ⟨hy0.symm, hy1.symm, hf.symm⟩
      have HY : Hid (getK L' b0 b1 k0 k1 = z0 ∧ getN L' b0 b1 k0 k1 = z1 ∧ wrongF L' b0 b1 k0 k1 = f) := Lib.hid ⟨hz0.symm, hz1.symm, by rw [hL', wrong_setL]; exact hf.symm⟩
      have HZ : Hid (¬ (a0 = b0 ∧ a1 = b1 ∧ i0 = k0 ∧ i1 = k1) → z0 = y0 ∧ z1 = y1) := Lib.hid (fun hne => by have h := get_setL_other L a0 a1 i0 i1 n b0 b1 k0 k1 hne; rw [← hL', ← hz0, ← hz1, ← hy0, ← hy1] at h; exact ⟨h.1, h.2.1⟩)
      clear hy0 hy1 hz0 hz1 hf
      obtain ⟨X0, hX0⟩ : ∃ X0, X0 = getK L' a0 a1 i0 i1 := ⟨_, rfl⟩
      obtain ⟨X1, hX1⟩ : ∃ X1, X1 = getN L' a0 a1 i0 i1 := ⟨_, rfl⟩
      obtain ⟨e, hee⟩ : ∃ e, e = wrongF L a0 a1 i0 i1 := ⟨_, rfl⟩
      have HE : Hid ((e = 0 → X0 = 1 ∧ n = X1) ∧ True) := Lib.hid ⟨fun h0 => by
        have h := get_setL_same L a0 a1 i0 i1 n (by rw [← hee]; exact h0)
        rw [← hL', ← hX0, ← hX1] at h
        exact ⟨h.1, h.2.1.symm⟩, trivial⟩
      have HG1 : Hid (getK L a0 a1 i0 i1 = x0 ∧ getN L a0 a1 i0 i1 = x1 ∧ wrongF L a0 a1 i0 i1 = e) := Lib.hid ⟨hx0.symm, hx1.symm, hee.symm⟩
      have HS : Hid (wrongF L a0 a1 i0 i1 = e ∧ setL L a0 a1 i0 i1 1 n = L') := Lib.hid ⟨hee.symm, hL'.symm⟩
      have HX : Hid (getK L' a0 a1 i0 i1 = X0 ∧ getN L' a0 a1 i0 i1 = X1 ∧ wrongF L' a0 a1 i0 i1 = e) := Lib.hid ⟨hX0.symm, hX1.symm, by rw [hL', wrong_setL]; exact hee.symm⟩
      clear hx0 hx1 hX0 hX1 hL' hk hee
      have lt_a : w.heap.size < wr.heap.size := blk_lt V_a.out.blk
      have c_a_0 : wr.cell? ⟨w.heap.size, 0, none⟩ = some (.int .i64 a0) := (blk_cell V_a.out.blk 0).trans rfl
      have f_a_0 : wr.frozen? ⟨w.heap.size, 0, none⟩ = false := blk_frozen V_a.out.blk 0
      have c_a_1 : wr.cell? ⟨w.heap.size, 1, none⟩ = some (.int .i64 a1) := (blk_cell V_a.out.blk 1).trans rfl
      have f_a_1 : wr.frozen? ⟨w.heap.size, 1, none⟩ = false := blk_frozen V_a.out.blk 1
      have lt_i : w.heap.size + 1 < wr.heap.size := blk_lt V_i.out.blk
      have c_i_0 : wr.cell? ⟨w.heap.size + 1, 0, none⟩ = some (.int .i64 i0) := (blk_cell V_i.out.blk 0).trans rfl
      have f_i_0 : wr.frozen? ⟨w.heap.size + 1, 0, none⟩ = false := blk_frozen V_i.out.blk 0
      have c_i_1 : wr.cell? ⟨w.heap.size + 1, 1, none⟩ = some (.int .i64 i1) := (blk_cell V_i.out.blk 1).trans rfl
      have f_i_1 : wr.frozen? ⟨w.heap.size + 1, 1, none⟩ = false := blk_frozen V_i.out.blk 1
      have lt_b : w.heap.size + 1 + 1 < wr.heap.size := blk_lt V_b.out.blk
      have c_b_0 : wr.cell? ⟨w.heap.size + 1 + 1, 0, none⟩ = some (.int .i64 b0) := (blk_cell V_b.out.blk 0).trans rfl
      have f_b_0 : wr.frozen? ⟨w.heap.size + 1 + 1, 0, none⟩ = false := blk_frozen V_b.out.blk 0
      have c_b_1 : wr.cell? ⟨w.heap.size + 1 + 1, 1, none⟩ = some (.int .i64 b1) := (blk_cell V_b.out.blk 1).trans rfl
      have f_b_1 : wr.frozen? ⟨w.heap.size + 1 + 1, 1, none⟩ = false := blk_frozen V_b.out.blk 1
      have lt_k : w.heap.size + 1 + 1 + 1 < wr.heap.size := blk_lt V_k.out.blk
      have c_k_0 : wr.cell? ⟨w.heap.size + 1 + 1 + 1, 0, none⟩ = some (.int .i64 k0) := (blk_cell V_k.out.blk 0).trans rfl
      have f_k_0 : wr.frozen? ⟨w.heap.size + 1 + 1 + 1, 0, none⟩ = false := blk_frozen V_k.out.blk 0
      have c_k_1 : wr.cell? ⟨w.heap.size + 1 + 1 + 1, 1, none⟩ = some (.int .i64 k1) := (blk_cell V_k.out.blk 1).trans rfl
      have f_k_1 : wr.frozen? ⟨w.heap.size + 1 + 1 + 1, 1, none⟩ = false := blk_frozen V_k.out.blk 1
      go_wp2_with fail
      refine (h1_get R.out a0 a1 i0 i1 HG1.out).mono ?_
      rintro e_ w_1 ⟨rfl, hb_⟩
      have n_a : Hid (Var1 w_1 okh (w.heap.size) #[.int .i64 a0, .int .i64 a1] 23) := Lib.hid (V_a.out.below hb_)
      have n_i : Hid (Var1 w_1 okh (w.heap.size + 1) #[.int .i64 i0, .int .i64 i1] 23) := Lib.hid (V_i.out.below hb_)
      have n_b : Hid (Var1 w_1 okh (w.heap.size + 1 + 1) #[.int .i64 b0, .int .i64 b1] 23) := Lib.hid (V_b.out.below hb_)
      have n_k : Hid (Var1 w_1 okh (w.heap.size + 1 + 1 + 1) #[.int .i64 k0, .int .i64 k1] 23) := Lib.hid (V_k.out.below hb_)
      clear V_a lt_a c_a_0 f_a_0 c_a_1 f_a_1 V_i lt_i c_i_0 f_i_0 c_i_1 f_i_1 V_b lt_b c_b_0 f_b_0 c_b_1 f_b_1 V_k lt_k c_k_0 f_k_0 c_k_1 f_k_1
      have V_a := n_a
      clear n_a
      have lt_a : w.heap.size < w_1.heap.size := blk_lt V_a.out.blk
      have c_a_0 : w_1.cell? ⟨w.heap.size, 0, none⟩ = some (.int .i64 a0) := (blk_cell V_a.out.blk 0).trans rfl
      have f_a_0 : w_1.frozen? ⟨w.heap.size, 0, none⟩ = false := blk_frozen V_a.out.blk 0
      have c_a_1 : w_1.cell? ⟨w.heap.size, 1, none⟩ = some (.int .i64 a1) := (blk_cell V_a.out.blk 1).trans rfl
      have f_a_1 : w_1.frozen? ⟨w.heap.size, 1, none⟩ = false := blk_frozen V_a.out.blk 1
      have V_i := n_i
      clear n_i
      have lt_i : w.heap.size + 1 < w_1.heap.size := blk_lt V_i.out.blk
      have c_i_0 : w_1.cell? ⟨w.heap.size + 1, 0, none⟩ = some (.int .i64 i0) := (blk_cell V_i.out.blk 0).trans rfl
      have f_i_0 : w_1.frozen? ⟨w.heap.size + 1, 0, none⟩ = false := blk_frozen V_i.out.blk 0
      have c_i_1 : w_1.cell? ⟨w.heap.size + 1, 1, none⟩ = some (.int .i64 i1) := (blk_cell V_i.out.blk 1).trans rfl
      have f_i_1 : w_1.frozen? ⟨w.heap.size + 1, 1, none⟩ = false := blk_frozen V_i.out.blk 1
      have V_b := n_b
      clear n_b
      have lt_b : w.heap.size + 1 + 1 < w_1.heap.size := blk_lt V_b.out.blk
      have c_b_0 : w_1.cell? ⟨w.heap.size + 1 + 1, 0, none⟩ = some (.int .i64 b0) := (blk_cell V_b.out.blk 0).trans rfl
      have f_b_0 : w_1.frozen? ⟨w.heap.size + 1 + 1, 0, none⟩ = false := blk_frozen V_b.out.blk 0
      have c_b_1 : w_1.cell? ⟨w.heap.size + 1 + 1, 1, none⟩ = some (.int .i64 b1) := (blk_cell V_b.out.blk 1).trans rfl
      have f_b_1 : w_1.frozen? ⟨w.heap.size + 1 + 1, 1, none⟩ = false := blk_frozen V_b.out.blk 1
      have V_k := n_k
      clear n_k
      have lt_k : w.heap.size + 1 + 1 + 1 < w_1.heap.size := blk_lt V_k.out.blk
      have c_k_0 : w_1.cell? ⟨w.heap.size + 1 + 1 + 1, 0, none⟩ = some (.int .i64 k0) := (blk_cell V_k.out.blk 0).trans rfl
      have f_k_0 : w_1.frozen? ⟨w.heap.size + 1 + 1 + 1, 0, none⟩ = false := blk_frozen V_k.out.blk 0
      have c_k_1 : w_1.cell? ⟨w.heap.size + 1 + 1 + 1, 1, none⟩ = some (.int .i64 k1) := (blk_cell V_k.out.blk 1).trans rfl
      have f_k_1 : w_1.frozen? ⟨w.heap.size + 1 + 1 + 1, 1, none⟩ = false := blk_frozen V_k.out.blk 1
      have nR := Lib.hid (R.out.below hb_)
      clear R
      have R := nR
      clear nR
      clear hb_
      go_wp2_with fail
      obtain ⟨v1, hw_⟩ : ∃ W_, W_ = w_1.alloc (.cells #[.int .i64 x0, .int .i64 x1] 23) := ⟨_, rfl⟩
      rw [← hw_]
      have hb_ : Below w_1.heap.size w_1 v1 := by rw [hw_]; exact below_alloc (Below.refl _ _) _
      have n_a : Hid (Var1 v1 okh (w.heap.size) #[.int .i64 a0, .int .i64 a1] 23) := Lib.hid (V_a.out.below hb_)
      have n_i : Hid (Var1 v1 okh (w.heap.size + 1) #[.int .i64 i0, .int .i64 i1] 23) := Lib.hid (V_i.out.below hb_)
      have n_b : Hid (Var1 v1 okh (w.heap.size + 1 + 1) #[.int .i64 b0, .int .i64 b1] 23) := Lib.hid (V_b.out.below hb_)
      have n_k : Hid (Var1 v1 okh (w.heap.size + 1 + 1 + 1) #[.int .i64 k0, .int .i64 k1] 23) := Lib.hid (V_k.out.below hb_)
      have n_was : Hid (Var1 v1 okh (w_1.heap.size) #[.int .i64 x0, .int .i64 x1] 23) := Lib.hid (Var1.fresh R.out (by rw [hw_]; exact heap_alloc_new _ _) (Nat.le_refl _))
      clear V_a lt_a c_a_0 f_a_0 c_a_1 f_a_1 V_i lt_i c_i_0 f_i_0 c_i_1 f_i_1 V_b lt_b c_b_0 f_b_0 c_b_1 f_b_1 V_k lt_k c_k_0 f_k_0 c_k_1 f_k_1
      have V_a := n_a
      clear n_a
      have lt_a : w.heap.size < v1.heap.size := blk_lt V_a.out.blk
      have c_a_0 : v1.cell? ⟨w.heap.size, 0, none⟩ = some (.int .i64 a0) := (blk_cell V_a.out.blk 0).trans rfl
      have f_a_0 : v1.frozen? ⟨w.heap.size, 0, none⟩ = false := blk_frozen V_a.out.blk 0
      have c_a_1 : v1.cell? ⟨w.heap.size, 1, none⟩ = some (.int .i64 a1) := (blk_cell V_a.out.blk 1).trans rfl
      have f_a_1 : v1.frozen? ⟨w.heap.size, 1, none⟩ = false := blk_frozen V_a.out.blk 1
      have V_i := n_i
      clear n_i
      have lt_i : w.heap.size + 1 < v1.heap.size := blk_lt V_i.out.blk
      have c_i_0 : v1.cell? ⟨w.heap.size + 1, 0, none⟩ = some (.int .i64 i0) := (blk_cell V_i.out.blk 0).trans rfl
      have f_i_0 : v1.frozen? ⟨w.heap.size + 1, 0, none⟩ = false := blk_frozen V_i.out.blk 0
      have c_i_1 : v1.cell? ⟨w.heap.size + 1, 1, none⟩ = some (.int .i64 i1) := (blk_cell V_i.out.blk 1).trans rfl
      have f_i_1 : v1.frozen? ⟨w.heap.size + 1, 1, none⟩ = false := blk_frozen V_i.out.blk 1
      have V_b := n_b
      clear n_b
      have lt_b : w.heap.size + 1 + 1 < v1.heap.size := blk_lt V_b.out.blk
      have c_b_0 : v1.cell? ⟨w.heap.size + 1 + 1, 0, none⟩ = some (.int .i64 b0) := (blk_cell V_b.out.blk 0).trans rfl
      have f_b_0 : v1.frozen? ⟨w.heap.size + 1 + 1, 0, none⟩ = false := blk_frozen V_b.out.blk 0
      have c_b_1 : v1.cell? ⟨w.heap.size + 1 + 1, 1, none⟩ = some (.int .i64 b1) := (blk_cell V_b.out.blk 1).trans rfl
      have f_b_1 : v1.frozen? ⟨w.heap.size + 1 + 1, 1, none⟩ = false := blk_frozen V_b.out.blk 1
      have V_k := n_k
      clear n_k
      have lt_k : w.heap.size + 1 + 1 + 1 < v1.heap.size := blk_lt V_k.out.blk
      have c_k_0 : v1.cell? ⟨w.heap.size + 1 + 1 + 1, 0, none⟩ = some (.int .i64 k0) := (blk_cell V_k.out.blk 0).trans rfl
      have f_k_0 : v1.frozen? ⟨w.heap.size + 1 + 1 + 1, 0, none⟩ = false := blk_frozen V_k.out.blk 0
      have c_k_1 : v1.cell? ⟨w.heap.size + 1 + 1 + 1, 1, none⟩ = some (.int .i64 k1) := (blk_cell V_k.out.blk 1).trans rfl
      have f_k_1 : v1.frozen? ⟨w.heap.size + 1 + 1 + 1, 1, none⟩ = false := blk_frozen V_k.out.blk 1
      have V_was := n_was
      clear n_was
      have lt_was : w_1.heap.size < v1.heap.size := blk_lt V_was.out.blk
      have c_was_0 : v1.cell? ⟨w_1.heap.size, 0, none⟩ = some (.int .i64 x0) := (blk_cell V_was.out.blk 0).trans rfl
      have f_was_0 : v1.frozen? ⟨w_1.heap.size, 0, none⟩ = false := blk_frozen V_was.out.blk 0
      have c_was_1 : v1.cell? ⟨w_1.heap.size, 1, none⟩ = some (.int .i64 x1) := (blk_cell V_was.out.blk 1).trans rfl
      have f_was_1 : v1.frozen? ⟨w_1.heap.size, 1, none⟩ = false := blk_frozen V_was.out.blk 1
      have nR := Lib.hid (R.out.below hb_)
      clear R
      have R := nR
      clear nR
      clear hb_ hw_
      refine (h1_get R.out b0 b1 k0 k1 HG2.out).mono ?_
      rintro e_ w_2 ⟨rfl, hb_⟩
      have n_a : Hid (Var1 w_2 okh (w.heap.size) #[.int .i64 a0, .int .i64 a1] 23) := Lib.hid (V_a.out.below hb_)
      have n_i : Hid (Var1 w_2 okh (w.heap.size + 1) #[.int .i64 i0, .int .i64 i1] 23) := Lib.hid (V_i.out.below hb_)
      have n_b : Hid (Var1 w_2 okh (w.heap.size + 1 + 1) #[.int .i64 b0, .int .i64 b1] 23) := Lib.hid (V_b.out.below hb_)
      have n_k : Hid (Var1 w_2 okh (w.heap.size + 1 + 1 + 1) #[.int .i64 k0, .int .i64 k1] 23) := Lib.hid (V_k.out.below hb_)
      have n_was : Hid (Var1 w_2 okh (w_1.heap.size) #[.int .i64 x0, .int .i64 x1] 23) := Lib.hid (V_was.out.below hb_)
      clear V_a lt_a c_a_0 f_a_0 c_a_1 f_a_1 V_i lt_i c_i_0 f_i_0 c_i_1 f_i_1 V_b lt_b c_b_0 f_b_0 c_b_1 f_b_1 V_k lt_k c_k_0 f_k_0 c_k_1 f_k_1 V_was lt_was c_was_0 f_was_0 c_was_1 f_was_1
      have V_a := n_a
      clear n_a
      have lt_a : w.heap.size < w_2.heap.size := blk_lt V_a.out.blk
      have c_a_0 : w_2.cell? ⟨w.heap.size, 0, none⟩ = some (.int .i64 a0) := (blk_cell V_a.out.blk 0).trans rfl
      have f_a_0 : w_2.frozen? ⟨w.heap.size, 0, none⟩ = false := blk_frozen V_a.out.blk 0
      have c_a_1 : w_2.cell? ⟨w.heap.size, 1, none⟩ = some (.int .i64 a1) := (blk_cell V_a.out.blk 1).trans rfl
      have f_a_1 : w_2.frozen? ⟨w.heap.size, 1, none⟩ = false := blk_frozen V_a.out.blk 1
      have V_i := n_i
      clear n_i
      have lt_i : w.heap.size + 1 < w_2.heap.size := blk_lt V_i.out.blk
      have c_i_0 : w_2.cell? ⟨w.heap.size + 1, 0, none⟩ = some (.int .i64 i0) := (blk_cell V_i.out.blk 0).trans rfl
      have f_i_0 : w_2.frozen? ⟨w.heap.size + 1, 0, none⟩ = false := blk_frozen V_i.out.blk 0
      have c_i_1 : w_2.cell? ⟨w.heap.size + 1, 1, none⟩ = some (.int .i64 i1) := (blk_cell V_i.out.blk 1).trans rfl
      have f_i_1 : w_2.frozen? ⟨w.heap.size + 1, 1, none⟩ = false := blk_frozen V_i.out.blk 1
      have V_b := n_b
      clear n_b
      have lt_b : w.heap.size + 1 + 1 < w_2.heap.size := blk_lt V_b.out.blk
      have c_b_0 : w_2.cell? ⟨w.heap.size + 1 + 1, 0, none⟩ = some (.int .i64 b0) := (blk_cell V_b.out.blk 0).trans rfl
      have f_b_0 : w_2.frozen? ⟨w.heap.size + 1 + 1, 0, none⟩ = false := blk_frozen V_b.out.blk 0
      have c_b_1 : w_2.cell? ⟨w.heap.size + 1 + 1, 1, none⟩ = some (.int .i64 b1) := (blk_cell V_b.out.blk 1).trans rfl
      have f_b_1 : w_2.frozen? ⟨w.heap.size + 1 + 1, 1, none⟩ = false := blk_frozen V_b.out.blk 1
      have V_k := n_k
      clear n_k
      have lt_k : w.heap.size + 1 + 1 + 1 < w_2.heap.size := blk_lt V_k.out.blk
      have c_k_0 : w_2.cell? ⟨w.heap.size + 1 + 1 + 1, 0, none⟩ = some (.int .i64 k0) := (blk_cell V_k.out.blk 0).trans rfl
      have f_k_0 : w_2.frozen? ⟨w.heap.size + 1 + 1 + 1, 0, none⟩ = false := blk_frozen V_k.out.blk 0
      have c_k_1 : w_2.cell? ⟨w.heap.size + 1 + 1 + 1, 1, none⟩ = some (.int .i64 k1) := (blk_cell V_k.out.blk 1).trans rfl
      have f_k_1 : w_2.frozen? ⟨w.heap.size + 1 + 1 + 1, 1, none⟩ = false := blk_frozen V_k.out.blk 1
      have V_was := n_was
      clear n_was
      have lt_was : w_1.heap.size < w_2.heap.size := blk_lt V_was.out.blk
      have c_was_0 : w_2.cell? ⟨w_1.heap.size, 0, none⟩ = some (.int .i64 x0) := (blk_cell V_was.out.blk 0).trans rfl
      have f_was_0 : w_2.frozen? ⟨w_1.heap.size, 0, none⟩ = false := blk_frozen V_was.out.blk 0
      have c_was_1 : w_2.cell? ⟨w_1.heap.size, 1, none⟩ = some (.int .i64 x1) := (blk_cell V_was.out.blk 1).trans rfl
      have f_was_1 : w_2.frozen? ⟨w_1.heap.size, 1, none⟩ = false := blk_frozen V_was.out.blk 1
      have nR := Lib.hid (R.out.below hb_)
      clear R
      have R := nR
      clear nR
      clear hb_
      go_wp2_with fail
      obtain ⟨v2, hw_⟩ : ∃ W_, W_ = w_2.alloc (.cells #[.int .i64 y0, .int .i64 y1] 23) := ⟨_, rfl⟩
      rw [← hw_]
      have hb_ : Below w_2.heap.size w_2 v2 := by rw [hw_]; exact below_alloc (Below.refl _ _) _
      have n_a : Hid (Var1 v2 okh (w.heap.size) #[.int .i64 a0, .int .i64 a1] 23) := Lib.hid (V_a.out.below hb_)
      have n_i : Hid (Var1 v2 okh (w.heap.size + 1) #[.int .i64 i0, .int .i64 i1] 23) := Lib.hid (V_i.out.below hb_)
      have n_b : Hid (Var1 v2 okh (w.heap.size + 1 + 1) #[.int .i64 b0, .int .i64 b1] 23) := Lib.hid (V_b.out.below hb_)
      have n_k : Hid (Var1 v2 okh (w.heap.size + 1 + 1 + 1) #[.int .i64 k0, .int .i64 k1] 23) := Lib.hid (V_k.out.below hb_)
      have n_was : Hid (Var1 v2 okh (w_1.heap.size) #[.int .i64 x0, .int .i64 x1] 23) := Lib.hid (V_was.out.below hb_)
      have n_oth : Hid (Var1 v2 okh (w_2.heap.size) #[.int .i64 y0, .int .i64 y1] 23) := Lib.hid (Var1.fresh R.out (by rw [hw_]; exact heap_alloc_new _ _) (Nat.le_refl _))
      clear V_a lt_a c_a_0 f_a_0 c_a_1 f_a_1 V_i lt_i c_i_0 f_i_0 c_i_1 f_i_1 V_b lt_b c_b_0 f_b_0 c_b_1 f_b_1 V_k lt_k c_k_0 f_k_0 c_k_1 f_k_1 V_was lt_was c_was_0 f_was_0 c_was_1 f_was_1
      have V_a := n_a
      clear n_a
      have lt_a : w.heap.size < v2.heap.size := blk_lt V_a.out.blk
      have c_a_0 : v2.cell? ⟨w.heap.size, 0, none⟩ = some (.int .i64 a0) := (blk_cell V_a.out.blk 0).trans rfl
      have f_a_0 : v2.frozen? ⟨w.heap.size, 0, none⟩ = false := blk_frozen V_a.out.blk 0
      have c_a_1 : v2.cell? ⟨w.heap.size, 1, none⟩ = some (.int .i64 a1) := (blk_cell V_a.out.blk 1).trans rfl
      have f_a_1 : v2.frozen? ⟨w.heap.size, 1, none⟩ = false := blk_frozen V_a.out.blk 1
      have V_i := n_i
      clear n_i
      have lt_i : w.heap.size + 1 < v2.heap.size := blk_lt V_i.out.blk
      have c_i_0 : v2.cell? ⟨w.heap.size + 1, 0, none⟩ = some (.int .i64 i0) := (blk_cell V_i.out.blk 0).trans rfl
      have f_i_0 : v2.frozen? ⟨w.heap.size + 1, 0, none⟩ = false := blk_frozen V_i.out.blk 0
      have c_i_1 : v2.cell? ⟨w.heap.size + 1, 1, none⟩ = some (.int .i64 i1) := (blk_cell V_i.out.blk 1).trans rfl
      have f_i_1 : v2.frozen? ⟨w.heap.size + 1, 1, none⟩ = false := blk_frozen V_i.out.blk 1
      have V_b := n_b
      clear n_b
      have lt_b : w.heap.size + 1 + 1 < v2.heap.size := blk_lt V_b.out.blk
      have c_b_0 : v2.cell? ⟨w.heap.size + 1 + 1, 0, none⟩ = some (.int .i64 b0) := (blk_cell V_b.out.blk 0).trans rfl
      have f_b_0 : v2.frozen? ⟨w.heap.size + 1 + 1, 0, none⟩ = false := blk_frozen V_b.out.blk 0
      have c_b_1 : v2.cell? ⟨w.heap.size + 1 + 1, 1, none⟩ = some (.int .i64 b1) := (blk_cell V_b.out.blk 1).trans rfl
      have f_b_1 : v2.frozen? ⟨w.heap.size + 1 + 1, 1, none⟩ = false := blk_frozen V_b.out.blk 1
      have V_k := n_k
      clear n_k
      have lt_k : w.heap.size + 1 + 1 + 1 < v2.heap.size := blk_lt V_k.out.blk
      have c_k_0 : v2.cell? ⟨w.heap.size + 1 + 1 + 1, 0, none⟩ = some (.int .i64 k0) := (blk_cell V_k.out.blk 0).trans rfl
      have f_k_0 : v2.frozen? ⟨w.heap.size + 1 + 1 + 1, 0, none⟩ = false := blk_frozen V_k.out.blk 0
      have c_k_1 : v2.cell? ⟨w.heap.size + 1 + 1 + 1, 1, none⟩ = some (.int .i64 k1) := (blk_cell V_k.out.blk 1).trans rfl
      have f_k_1 : v2.frozen? ⟨w.heap.size + 1 + 1 + 1, 1, none⟩ = false := blk_frozen V_k.out.blk 1
      have V_was := n_was
      clear n_was
      have lt_was : w_1.heap.size < v2.heap.size := blk_lt V_was.out.blk
      have c_was_0 : v2.cell? ⟨w_1.heap.size, 0, none⟩ = some (.int .i64 x0) := (blk_cell V_was.out.blk 0).trans rfl
      have f_was_0 : v2.frozen? ⟨w_1.heap.size, 0, none⟩ = false := blk_frozen V_was.out.blk 0
      have c_was_1 : v2.cell? ⟨w_1.heap.size, 1, none⟩ = some (.int .i64 x1) := (blk_cell V_was.out.blk 1).trans rfl
      have f_was_1 : v2.frozen? ⟨w_1.heap.size, 1, none⟩ = false := blk_frozen V_was.out.blk 1
      have V_oth := n_oth
      clear n_oth
      have lt_oth : w_2.heap.size < v2.heap.size := blk_lt V_oth.out.blk
      have c_oth_0 : v2.cell? ⟨w_2.heap.size, 0, none⟩ = some (.int .i64 y0) := (blk_cell V_oth.out.blk 0).trans rfl
      have f_oth_0 : v2.frozen? ⟨w_2.heap.size, 0, none⟩ = false := blk_frozen V_oth.out.blk 0
      have c_oth_1 : v2.cell? ⟨w_2.heap.size, 1, none⟩ = some (.int .i64 y1) := (blk_cell V_oth.out.blk 1).trans rfl
      have f_oth_1 : v2.frozen? ⟨w_2.heap.size, 1, none⟩ = false := blk_frozen V_oth.out.blk 1
      have nR := Lib.hid (R.out.below hb_)
      clear R
      have R := nR
      clear nR
      clear hb_ hw_
      refine (h2_copy R.out).mono ?_
      rintro e_ v3 ⟨⟨Bc, okc, rfl, R2_, hk_⟩, hb_⟩
      have n_a : Hid (Var v3 okh okc (w.heap.size) #[.int .i64 a0, .int .i64 a1] 23) := Lib.hid (V_a.out.two hk_ hb_)
      have n_i : Hid (Var v3 okh okc (w.heap.size + 1) #[.int .i64 i0, .int .i64 i1] 23) := Lib.hid (V_i.out.two hk_ hb_)
      have n_b : Hid (Var v3 okh okc (w.heap.size + 1 + 1) #[.int .i64 b0, .int .i64 b1] 23) := Lib.hid (V_b.out.two hk_ hb_)
      have n_k : Hid (Var v3 okh okc (w.heap.size + 1 + 1 + 1) #[.int .i64 k0, .int .i64 k1] 23) := Lib.hid (V_k.out.two hk_ hb_)
      have n_was : Hid (Var v3 okh okc (w_1.heap.size) #[.int .i64 x0, .int .i64 x1] 23) := Lib.hid (V_was.out.two hk_ hb_)
      have n_oth : Hid (Var v3 okh okc (w_2.heap.size) #[.int .i64 y0, .int .i64 y1] 23) := Lib.hid (V_oth.out.two hk_ hb_)
      clear V_a lt_a c_a_0 f_a_0 c_a_1 f_a_1 V_i lt_i c_i_0 f_i_0 c_i_1 f_i_1 V_b lt_b c_b_0 f_b_0 c_b_1 f_b_1 V_k lt_k c_k_0 f_k_0 c_k_1 f_k_1 V_was lt_was c_was_0 f_was_0 c_was_1 f_was_1 V_oth lt_oth c_oth_0 f_oth_0 c_oth_1 f_oth_1
      have V_a := n_a
      clear n_a
      have lt_a : w.heap.size < v3.heap.size := blk_lt V_a.out.blk
      have c_a_0 : v3.cell? ⟨w.heap.size, 0, none⟩ = some (.int .i64 a0) := (blk_cell V_a.out.blk 0).trans rfl
      have f_a_0 : v3.frozen? ⟨w.heap.size, 0, none⟩ = false := blk_frozen V_a.out.blk 0
      have c_a_1 : v3.cell? ⟨w.heap.size, 1, none⟩ = some (.int .i64 a1) := (blk_cell V_a.out.blk 1).trans rfl
      have f_a_1 : v3.frozen? ⟨w.heap.size, 1, none⟩ = false := blk_frozen V_a.out.blk 1
      have V_i := n_i
      clear n_i
      have lt_i : w.heap.size + 1 < v3.heap.size := blk_lt V_i.out.blk
      have c_i_0 : v3.cell? ⟨w.heap.size + 1, 0, none⟩ = some (.int .i64 i0) := (blk_cell V_i.out.blk 0).trans rfl
      have f_i_0 : v3.frozen? ⟨w.heap.size + 1, 0, none⟩ = false := blk_frozen V_i.out.blk 0
      have c_i_1 : v3.cell? ⟨w.heap.size + 1, 1, none⟩ = some (.int .i64 i1) := (blk_cell V_i.out.blk 1).trans rfl
      have f_i_1 : v3.frozen? ⟨w.heap.size + 1, 1, none⟩ = false := blk_frozen V_i.out.blk 1
      have V_b := n_b
      clear n_b
      have lt_b : w.heap.size + 1 + 1 < v3.heap.size := blk_lt V_b.out.blk
      have c_b_0 : v3.cell? ⟨w.heap.size + 1 + 1, 0, none⟩ = some (.int .i64 b0) := (blk_cell V_b.out.blk 0).trans rfl
      have f_b_0 : v3.frozen? ⟨w.heap.size + 1 + 1, 0, none⟩ = false := blk_frozen V_b.out.blk 0
      have c_b_1 : v3.cell? ⟨w.heap.size + 1 + 1, 1, none⟩ = some (.int .i64 b1) := (blk_cell V_b.out.blk 1).trans rfl
      have f_b_1 : v3.frozen? ⟨w.heap.size + 1 + 1, 1, none⟩ = false := blk_frozen V_b.out.blk 1
      have V_k := n_k
      clear n_k
      have lt_k : w.heap.size + 1 + 1 + 1 < v3.heap.size := blk_lt V_k.out.blk
      have c_k_0 : v3.cell? ⟨w.heap.size + 1 + 1 + 1, 0, none⟩ = some (.int .i64 k0) := (blk_cell V_k.out.blk 0).trans rfl
      have f_k_0 : v3.frozen? ⟨w.heap.size + 1 + 1 + 1, 0, none⟩ = false := blk_frozen V_k.out.blk 0
      have c_k_1 : v3.cell? ⟨w.heap.size + 1 + 1 + 1, 1, none⟩ = some (.int .i64 k1) := (blk_cell V_k.out.blk 1).trans rfl
      have f_k_1 : v3.frozen? ⟨w.heap.size + 1 + 1 + 1, 1, none⟩ = false := blk_frozen V_k.out.blk 1
      have V_was := n_was
      clear n_was
      have lt_was : w_1.heap.size < v3.heap.size := blk_lt V_was.out.blk
      have c_was_0 : v3.cell? ⟨w_1.heap.size, 0, none⟩ = some (.int .i64 x0) := (blk_cell V_was.out.blk 0).trans rfl
      have f_was_0 : v3.frozen? ⟨w_1.heap.size, 0, none⟩ = false := blk_frozen V_was.out.blk 0
      have c_was_1 : v3.cell? ⟨w_1.heap.size, 1, none⟩ = some (.int .i64 x1) := (blk_cell V_was.out.blk 1).trans rfl
      have f_was_1 : v3.frozen? ⟨w_1.heap.size, 1, none⟩ = false := blk_frozen V_was.out.blk 1
      have V_oth := n_oth
      clear n_oth
      have lt_oth : w_2.heap.size < v3.heap.size := blk_lt V_oth.out.blk
      have c_oth_0 : v3.cell? ⟨w_2.heap.size, 0, none⟩ = some (.int .i64 y0) := (blk_cell V_oth.out.blk 0).trans rfl
      have f_oth_0 : v3.frozen? ⟨w_2.heap.size, 0, none⟩ = false := blk_frozen V_oth.out.blk 0
      have c_oth_1 : v3.cell? ⟨w_2.heap.size, 1, none⟩ = some (.int .i64 y1) := (blk_cell V_oth.out.blk 1).trans rfl
      have f_oth_1 : v3.frozen? ⟨w_2.heap.size, 1, none⟩ = false := blk_frozen V_oth.out.blk 1
      clear R
      have R := Lib.hid R2_
      clear R2_ hk_ hb_
      go_wp2_with fail
      refine start_ (n := 7) (S := fun w' => w'.cell? ⟨w.heap.size, 0, none⟩ = some (.int .i64 a0) ∧ w'.cell? ⟨w.heap.size, 1, none⟩ = some (.int .i64 a1) ∧ w'.cell? ⟨w.heap.size + 1, 0, none⟩ = some (.int .i64 i0) ∧ w'.cell? ⟨w.heap.size + 1, 1, none⟩ = some (.int .i64 i1)) (ds := [5]) #[false, false, false, false, false, false, false] (by kernel_rfl) rfl rfl ⟨cell_drew c_a_0, cell_drew c_a_1, cell_drew c_i_0, cell_drew c_i_1⟩ (fun hHeld => ?_)
      refine pure_ (i := 0) (N := some 69) (v := ?_) (a' := ?_) #[true, false, false, false, false, false, false] rfl rfl (by kernel_rfl) (fun _ _ _ h => h) (Or.inl ⟨by rfl, ?_⟩) ?_ ?_
      rotate_left
      · intro w'
        go_simp
        with_reducible rfl
      rotate_left
      · simp only [Act.put, List.setIfInBounds_toArray, List.set_cons_zero, List.set_cons_succ, i64_w, i32_w]
        rfl
      refine pure_ (i := 3) (N := some 72) (v := ?_) (a' := ?_) #[true, false, false, true, false, false, false] rfl rfl (by kernel_rfl) (fun _ _ _ h => h) (Or.inl ⟨by rfl, ?_⟩) ?_ ?_
      rotate_left
      · intro w'
        go_simp
        with_reducible rfl
      rotate_left
      · simp only [Act.put, List.setIfInBounds_toArray, List.set_cons_zero, List.set_cons_succ, i64_w, i32_w]
        rfl
      refine take_ (i := 1) (N := some 70) (v := ?_) (a' := ?_) #[true, true, false, true, false, false, false] rfl rfl (by kernel_rfl) (fun _ _ _ h => h) (Or.inl ⟨by rfl, ?_⟩) hHeld ?_ ?_
      rotate_left
      · rintro w' ⟨s0, s1, s2, s3⟩
        go_simp
        with_reducible rfl
      rotate_left
      · simp only [Act.put, List.setIfInBounds_toArray, List.set_cons_zero, List.set_cons_succ, i64_w, i32_w]
        rfl
      refine take_ (i := 2) (N := some 71) (v := ?_) (a' := ?_) #[true, true, true, true, false, false, false] rfl rfl (by kernel_rfl) (fun _ _ _ h => h) (Or.inl ⟨by rfl, ?_⟩) hHeld ?_ ?_
      rotate_left
      · rintro w' ⟨s0, s1, s2, s3⟩
        go_simp
        with_reducible rfl
      rotate_left
      · simp only [Act.put, List.setIfInBounds_toArray, List.set_cons_zero, List.set_cons_succ, i64_w, i32_w]
        rfl
      refine one_ (i := 4) (N := some 73) #[true, true, true, true, true, false, false] rfl rfl (by kernel_rfl) (by decide) (fun K hK => ?_)
      refine goes_ Try.func16 (by kernel_rfl) rfl #[.int .i64 n] (by rfl) rfl rfl (by simp only [List.map_toArray, List.map_cons, List.map_nil]; rfl) ?_
      with_reducible refine (runnellaw9_num.calls n 1 n _ rfl).mono ?_
      rintro e_ v4 ⟨rfl, hb_⟩
      refine ⟨_, rfl, ?_⟩
      have Q_v4 := Lib.hid (below_step (below_drew (Below.refl v3.heap.size v3)) hb_)
      have P_v4 := Lib.hid hb_
      clear hb_
      refine hK.out _ _ ⟨pw_cell_below P_v4.out hHeld.1, pw_cell_below P_v4.out hHeld.2.1, pw_cell_below P_v4.out hHeld.2.2.1, pw_cell_below P_v4.out hHeld.2.2.2⟩ (fun hHeld => ?_)
      clear hK K
      refine norm_ (a' := ?_) ?_ ?_
      rotate_left
      · show Act.put _ (some 73) _ = _
        simp only [Act.put, List.setIfInBounds_toArray, List.set_cons_zero, List.set_cons_succ, i64_w, i32_w]
        rfl
      refine last_ (i := 5) (N := some 74) #[true, true, true, true, true, true, false] rfl rfl (by kernel_rfl) (by decide) (fun K hK => ?_)
      refine goes_ Try.func24 (by kernel_rfl) rfl #[.pointer (some ⟨Bc, 0, none⟩), .agg #[.int .i64 a0, .int .i64 a1], .agg #[.int .i64 i0, .int .i64 i1], .agg #[.int .i64 1, .int .i64 n]] (by rfl) rfl rfl (by simp only [List.map_toArray, List.map_cons, List.map_nil]; rfl) ?_
      with_reducible refine (h2_set (R.out.below Q_v4.out) a0 a1 i0 i1 1 n HS.out).mono ?_
      rintro e_ v5 ⟨rfl, R_, K_⟩
      refine ⟨_, rfl, ?_⟩
      have RN := Lib.hid R_
      have KN := Lib.hid K_
      clear R_ K_
      refine hK.out _ _ ?_
      clear hK K
      refine norm_ (a' := ?_) ?_ ?_
      rotate_left
      · show Act.put _ (some 74) _ = _
        simp only [Act.put, List.setIfInBounds_toArray, List.set_cons_zero, List.set_cons_succ, i64_w, i32_w]
        rfl
      refine pure_ (i := 6) (N := some 21) (v := ?_) (a' := ?_) #[true, true, true, true, true, true, true] rfl rfl (by kernel_rfl) (fun _ _ _ h => h) (Or.inl ⟨by rfl, ?_⟩) ?_ ?_
      rotate_left
      · intro w'
        go_simp
        with_reducible rfl
      rotate_left
      · simp only [Act.put, List.setIfInBounds_toArray, List.set_cons_zero, List.set_cons_succ, i64_w, i32_w]
        rfl
      refine done_ (by kernel_rfl) ?_
      have n_a : Hid (Var v5 okh okc (w.heap.size) #[.int .i64 a0, .int .i64 a1] 23) := Lib.hid ((V_a.out.below Q_v4.out).keep KN.out)
      have n_i : Hid (Var v5 okh okc (w.heap.size + 1) #[.int .i64 i0, .int .i64 i1] 23) := Lib.hid ((V_i.out.below Q_v4.out).keep KN.out)
      have n_b : Hid (Var v5 okh okc (w.heap.size + 1 + 1) #[.int .i64 b0, .int .i64 b1] 23) := Lib.hid ((V_b.out.below Q_v4.out).keep KN.out)
      have n_k : Hid (Var v5 okh okc (w.heap.size + 1 + 1 + 1) #[.int .i64 k0, .int .i64 k1] 23) := Lib.hid ((V_k.out.below Q_v4.out).keep KN.out)
      have n_was : Hid (Var v5 okh okc (w_1.heap.size) #[.int .i64 x0, .int .i64 x1] 23) := Lib.hid ((V_was.out.below Q_v4.out).keep KN.out)
      have n_oth : Hid (Var v5 okh okc (w_2.heap.size) #[.int .i64 y0, .int .i64 y1] 23) := Lib.hid ((V_oth.out.below Q_v4.out).keep KN.out)
      clear V_a lt_a c_a_0 f_a_0 c_a_1 f_a_1 V_i lt_i c_i_0 f_i_0 c_i_1 f_i_1 V_b lt_b c_b_0 f_b_0 c_b_1 f_b_1 V_k lt_k c_k_0 f_k_0 c_k_1 f_k_1 V_was lt_was c_was_0 f_was_0 c_was_1 f_was_1 V_oth lt_oth c_oth_0 f_oth_0 c_oth_1 f_oth_1
      have V_a := n_a
      clear n_a
      have lt_a : w.heap.size < v5.heap.size := blk_lt V_a.out.blk
      have c_a_0 : v5.cell? ⟨w.heap.size, 0, none⟩ = some (.int .i64 a0) := (blk_cell V_a.out.blk 0).trans rfl
      have f_a_0 : v5.frozen? ⟨w.heap.size, 0, none⟩ = false := blk_frozen V_a.out.blk 0
      have c_a_1 : v5.cell? ⟨w.heap.size, 1, none⟩ = some (.int .i64 a1) := (blk_cell V_a.out.blk 1).trans rfl
      have f_a_1 : v5.frozen? ⟨w.heap.size, 1, none⟩ = false := blk_frozen V_a.out.blk 1
      have V_i := n_i
      clear n_i
      have lt_i : w.heap.size + 1 < v5.heap.size := blk_lt V_i.out.blk
      have c_i_0 : v5.cell? ⟨w.heap.size + 1, 0, none⟩ = some (.int .i64 i0) := (blk_cell V_i.out.blk 0).trans rfl
      have f_i_0 : v5.frozen? ⟨w.heap.size + 1, 0, none⟩ = false := blk_frozen V_i.out.blk 0
      have c_i_1 : v5.cell? ⟨w.heap.size + 1, 1, none⟩ = some (.int .i64 i1) := (blk_cell V_i.out.blk 1).trans rfl
      have f_i_1 : v5.frozen? ⟨w.heap.size + 1, 1, none⟩ = false := blk_frozen V_i.out.blk 1
      have V_b := n_b
      clear n_b
      have lt_b : w.heap.size + 1 + 1 < v5.heap.size := blk_lt V_b.out.blk
      have c_b_0 : v5.cell? ⟨w.heap.size + 1 + 1, 0, none⟩ = some (.int .i64 b0) := (blk_cell V_b.out.blk 0).trans rfl
      have f_b_0 : v5.frozen? ⟨w.heap.size + 1 + 1, 0, none⟩ = false := blk_frozen V_b.out.blk 0
      have c_b_1 : v5.cell? ⟨w.heap.size + 1 + 1, 1, none⟩ = some (.int .i64 b1) := (blk_cell V_b.out.blk 1).trans rfl
      have f_b_1 : v5.frozen? ⟨w.heap.size + 1 + 1, 1, none⟩ = false := blk_frozen V_b.out.blk 1
      have V_k := n_k
      clear n_k
      have lt_k : w.heap.size + 1 + 1 + 1 < v5.heap.size := blk_lt V_k.out.blk
      have c_k_0 : v5.cell? ⟨w.heap.size + 1 + 1 + 1, 0, none⟩ = some (.int .i64 k0) := (blk_cell V_k.out.blk 0).trans rfl
      have f_k_0 : v5.frozen? ⟨w.heap.size + 1 + 1 + 1, 0, none⟩ = false := blk_frozen V_k.out.blk 0
      have c_k_1 : v5.cell? ⟨w.heap.size + 1 + 1 + 1, 1, none⟩ = some (.int .i64 k1) := (blk_cell V_k.out.blk 1).trans rfl
      have f_k_1 : v5.frozen? ⟨w.heap.size + 1 + 1 + 1, 1, none⟩ = false := blk_frozen V_k.out.blk 1
      have V_was := n_was
      clear n_was
      have lt_was : w_1.heap.size < v5.heap.size := blk_lt V_was.out.blk
      have c_was_0 : v5.cell? ⟨w_1.heap.size, 0, none⟩ = some (.int .i64 x0) := (blk_cell V_was.out.blk 0).trans rfl
      have f_was_0 : v5.frozen? ⟨w_1.heap.size, 0, none⟩ = false := blk_frozen V_was.out.blk 0
      have c_was_1 : v5.cell? ⟨w_1.heap.size, 1, none⟩ = some (.int .i64 x1) := (blk_cell V_was.out.blk 1).trans rfl
      have f_was_1 : v5.frozen? ⟨w_1.heap.size, 1, none⟩ = false := blk_frozen V_was.out.blk 1
      have V_oth := n_oth
      clear n_oth
      have lt_oth : w_2.heap.size < v5.heap.size := blk_lt V_oth.out.blk
      have c_oth_0 : v5.cell? ⟨w_2.heap.size, 0, none⟩ = some (.int .i64 y0) := (blk_cell V_oth.out.blk 0).trans rfl
      have f_oth_0 : v5.frozen? ⟨w_2.heap.size, 0, none⟩ = false := blk_frozen V_oth.out.blk 0
      have c_oth_1 : v5.cell? ⟨w_2.heap.size, 1, none⟩ = some (.int .i64 y1) := (blk_cell V_oth.out.blk 1).trans rfl
      have f_oth_1 : v5.frozen? ⟨w_2.heap.size, 1, none⟩ = false := blk_frozen V_oth.out.blk 1
      clear R
      have R := RN
      clear RN KN
      go_wp2_with fail
      refine (h1_get R.out.c a0 a1 i0 i1 HX.out).mono ?_
      rintro e_ w_23 ⟨rfl, hb_⟩
      have n_a : Hid (Var w_23 okh okc (w.heap.size) #[.int .i64 a0, .int .i64 a1] 23) := Lib.hid (V_a.out.below hb_)
      have n_i : Hid (Var w_23 okh okc (w.heap.size + 1) #[.int .i64 i0, .int .i64 i1] 23) := Lib.hid (V_i.out.below hb_)
      have n_b : Hid (Var w_23 okh okc (w.heap.size + 1 + 1) #[.int .i64 b0, .int .i64 b1] 23) := Lib.hid (V_b.out.below hb_)
      have n_k : Hid (Var w_23 okh okc (w.heap.size + 1 + 1 + 1) #[.int .i64 k0, .int .i64 k1] 23) := Lib.hid (V_k.out.below hb_)
      have n_was : Hid (Var w_23 okh okc (w_1.heap.size) #[.int .i64 x0, .int .i64 x1] 23) := Lib.hid (V_was.out.below hb_)
      have n_oth : Hid (Var w_23 okh okc (w_2.heap.size) #[.int .i64 y0, .int .i64 y1] 23) := Lib.hid (V_oth.out.below hb_)
      clear V_a lt_a c_a_0 f_a_0 c_a_1 f_a_1 V_i lt_i c_i_0 f_i_0 c_i_1 f_i_1 V_b lt_b c_b_0 f_b_0 c_b_1 f_b_1 V_k lt_k c_k_0 f_k_0 c_k_1 f_k_1 V_was lt_was c_was_0 f_was_0 c_was_1 f_was_1 V_oth lt_oth c_oth_0 f_oth_0 c_oth_1 f_oth_1
      have V_a := n_a
      clear n_a
      have lt_a : w.heap.size < w_23.heap.size := blk_lt V_a.out.blk
      have c_a_0 : w_23.cell? ⟨w.heap.size, 0, none⟩ = some (.int .i64 a0) := (blk_cell V_a.out.blk 0).trans rfl
      have f_a_0 : w_23.frozen? ⟨w.heap.size, 0, none⟩ = false := blk_frozen V_a.out.blk 0
      have c_a_1 : w_23.cell? ⟨w.heap.size, 1, none⟩ = some (.int .i64 a1) := (blk_cell V_a.out.blk 1).trans rfl
      have f_a_1 : w_23.frozen? ⟨w.heap.size, 1, none⟩ = false := blk_frozen V_a.out.blk 1
      have V_i := n_i
      clear n_i
      have lt_i : w.heap.size + 1 < w_23.heap.size := blk_lt V_i.out.blk
      have c_i_0 : w_23.cell? ⟨w.heap.size + 1, 0, none⟩ = some (.int .i64 i0) := (blk_cell V_i.out.blk 0).trans rfl
      have f_i_0 : w_23.frozen? ⟨w.heap.size + 1, 0, none⟩ = false := blk_frozen V_i.out.blk 0
      have c_i_1 : w_23.cell? ⟨w.heap.size + 1, 1, none⟩ = some (.int .i64 i1) := (blk_cell V_i.out.blk 1).trans rfl
      have f_i_1 : w_23.frozen? ⟨w.heap.size + 1, 1, none⟩ = false := blk_frozen V_i.out.blk 1
      have V_b := n_b
      clear n_b
      have lt_b : w.heap.size + 1 + 1 < w_23.heap.size := blk_lt V_b.out.blk
      have c_b_0 : w_23.cell? ⟨w.heap.size + 1 + 1, 0, none⟩ = some (.int .i64 b0) := (blk_cell V_b.out.blk 0).trans rfl
      have f_b_0 : w_23.frozen? ⟨w.heap.size + 1 + 1, 0, none⟩ = false := blk_frozen V_b.out.blk 0
      have c_b_1 : w_23.cell? ⟨w.heap.size + 1 + 1, 1, none⟩ = some (.int .i64 b1) := (blk_cell V_b.out.blk 1).trans rfl
      have f_b_1 : w_23.frozen? ⟨w.heap.size + 1 + 1, 1, none⟩ = false := blk_frozen V_b.out.blk 1
      have V_k := n_k
      clear n_k
      have lt_k : w.heap.size + 1 + 1 + 1 < w_23.heap.size := blk_lt V_k.out.blk
      have c_k_0 : w_23.cell? ⟨w.heap.size + 1 + 1 + 1, 0, none⟩ = some (.int .i64 k0) := (blk_cell V_k.out.blk 0).trans rfl
      have f_k_0 : w_23.frozen? ⟨w.heap.size + 1 + 1 + 1, 0, none⟩ = false := blk_frozen V_k.out.blk 0
      have c_k_1 : w_23.cell? ⟨w.heap.size + 1 + 1 + 1, 1, none⟩ = some (.int .i64 k1) := (blk_cell V_k.out.blk 1).trans rfl
      have f_k_1 : w_23.frozen? ⟨w.heap.size + 1 + 1 + 1, 1, none⟩ = false := blk_frozen V_k.out.blk 1
      have V_was := n_was
      clear n_was
      have lt_was : w_1.heap.size < w_23.heap.size := blk_lt V_was.out.blk
      have c_was_0 : w_23.cell? ⟨w_1.heap.size, 0, none⟩ = some (.int .i64 x0) := (blk_cell V_was.out.blk 0).trans rfl
      have f_was_0 : w_23.frozen? ⟨w_1.heap.size, 0, none⟩ = false := blk_frozen V_was.out.blk 0
      have c_was_1 : w_23.cell? ⟨w_1.heap.size, 1, none⟩ = some (.int .i64 x1) := (blk_cell V_was.out.blk 1).trans rfl
      have f_was_1 : w_23.frozen? ⟨w_1.heap.size, 1, none⟩ = false := blk_frozen V_was.out.blk 1
      have V_oth := n_oth
      clear n_oth
      have lt_oth : w_2.heap.size < w_23.heap.size := blk_lt V_oth.out.blk
      have c_oth_0 : w_23.cell? ⟨w_2.heap.size, 0, none⟩ = some (.int .i64 y0) := (blk_cell V_oth.out.blk 0).trans rfl
      have f_oth_0 : w_23.frozen? ⟨w_2.heap.size, 0, none⟩ = false := blk_frozen V_oth.out.blk 0
      have c_oth_1 : w_23.cell? ⟨w_2.heap.size, 1, none⟩ = some (.int .i64 y1) := (blk_cell V_oth.out.blk 1).trans rfl
      have f_oth_1 : w_23.frozen? ⟨w_2.heap.size, 1, none⟩ = false := blk_frozen V_oth.out.blk 1
      have nR := Lib.hid (R.out.below hb_)
      clear R
      have R := nR
      clear nR
      clear hb_
      go_wp2_with fail
      obtain ⟨v6, hw_⟩ : ∃ W_, W_ = w_23.alloc (.cells #[.int .i64 X0, .int .i64 X1] 23) := ⟨_, rfl⟩
      rw [← hw_]
      have hb_ : Below w_23.heap.size w_23 v6 := by rw [hw_]; exact below_alloc (Below.refl _ _) _
      have n_a : Hid (Var v6 okh okc (w.heap.size) #[.int .i64 a0, .int .i64 a1] 23) := Lib.hid (V_a.out.below hb_)
      have n_i : Hid (Var v6 okh okc (w.heap.size + 1) #[.int .i64 i0, .int .i64 i1] 23) := Lib.hid (V_i.out.below hb_)
      have n_b : Hid (Var v6 okh okc (w.heap.size + 1 + 1) #[.int .i64 b0, .int .i64 b1] 23) := Lib.hid (V_b.out.below hb_)
      have n_k : Hid (Var v6 okh okc (w.heap.size + 1 + 1 + 1) #[.int .i64 k0, .int .i64 k1] 23) := Lib.hid (V_k.out.below hb_)
      have n_was : Hid (Var v6 okh okc (w_1.heap.size) #[.int .i64 x0, .int .i64 x1] 23) := Lib.hid (V_was.out.below hb_)
      have n_oth : Hid (Var v6 okh okc (w_2.heap.size) #[.int .i64 y0, .int .i64 y1] 23) := Lib.hid (V_oth.out.below hb_)
      have n_x : Hid (Var v6 okh okc (w_23.heap.size) #[.int .i64 X0, .int .i64 X1] 23) := Lib.hid (Var.fresh2 R.out (by rw [hw_]; exact heap_alloc_new _ _) (Nat.le_refl _))
      clear V_a lt_a c_a_0 f_a_0 c_a_1 f_a_1 V_i lt_i c_i_0 f_i_0 c_i_1 f_i_1 V_b lt_b c_b_0 f_b_0 c_b_1 f_b_1 V_k lt_k c_k_0 f_k_0 c_k_1 f_k_1 V_was lt_was c_was_0 f_was_0 c_was_1 f_was_1 V_oth lt_oth c_oth_0 f_oth_0 c_oth_1 f_oth_1
      have V_a := n_a
      clear n_a
      have lt_a : w.heap.size < v6.heap.size := blk_lt V_a.out.blk
      have c_a_0 : v6.cell? ⟨w.heap.size, 0, none⟩ = some (.int .i64 a0) := (blk_cell V_a.out.blk 0).trans rfl
      have f_a_0 : v6.frozen? ⟨w.heap.size, 0, none⟩ = false := blk_frozen V_a.out.blk 0
      have c_a_1 : v6.cell? ⟨w.heap.size, 1, none⟩ = some (.int .i64 a1) := (blk_cell V_a.out.blk 1).trans rfl
      have f_a_1 : v6.frozen? ⟨w.heap.size, 1, none⟩ = false := blk_frozen V_a.out.blk 1
      have V_i := n_i
      clear n_i
      have lt_i : w.heap.size + 1 < v6.heap.size := blk_lt V_i.out.blk
      have c_i_0 : v6.cell? ⟨w.heap.size + 1, 0, none⟩ = some (.int .i64 i0) := (blk_cell V_i.out.blk 0).trans rfl
      have f_i_0 : v6.frozen? ⟨w.heap.size + 1, 0, none⟩ = false := blk_frozen V_i.out.blk 0
      have c_i_1 : v6.cell? ⟨w.heap.size + 1, 1, none⟩ = some (.int .i64 i1) := (blk_cell V_i.out.blk 1).trans rfl
      have f_i_1 : v6.frozen? ⟨w.heap.size + 1, 1, none⟩ = false := blk_frozen V_i.out.blk 1
      have V_b := n_b
      clear n_b
      have lt_b : w.heap.size + 1 + 1 < v6.heap.size := blk_lt V_b.out.blk
      have c_b_0 : v6.cell? ⟨w.heap.size + 1 + 1, 0, none⟩ = some (.int .i64 b0) := (blk_cell V_b.out.blk 0).trans rfl
      have f_b_0 : v6.frozen? ⟨w.heap.size + 1 + 1, 0, none⟩ = false := blk_frozen V_b.out.blk 0
      have c_b_1 : v6.cell? ⟨w.heap.size + 1 + 1, 1, none⟩ = some (.int .i64 b1) := (blk_cell V_b.out.blk 1).trans rfl
      have f_b_1 : v6.frozen? ⟨w.heap.size + 1 + 1, 1, none⟩ = false := blk_frozen V_b.out.blk 1
      have V_k := n_k
      clear n_k
      have lt_k : w.heap.size + 1 + 1 + 1 < v6.heap.size := blk_lt V_k.out.blk
      have c_k_0 : v6.cell? ⟨w.heap.size + 1 + 1 + 1, 0, none⟩ = some (.int .i64 k0) := (blk_cell V_k.out.blk 0).trans rfl
      have f_k_0 : v6.frozen? ⟨w.heap.size + 1 + 1 + 1, 0, none⟩ = false := blk_frozen V_k.out.blk 0
      have c_k_1 : v6.cell? ⟨w.heap.size + 1 + 1 + 1, 1, none⟩ = some (.int .i64 k1) := (blk_cell V_k.out.blk 1).trans rfl
      have f_k_1 : v6.frozen? ⟨w.heap.size + 1 + 1 + 1, 1, none⟩ = false := blk_frozen V_k.out.blk 1
      have V_was := n_was
      clear n_was
      have lt_was : w_1.heap.size < v6.heap.size := blk_lt V_was.out.blk
      have c_was_0 : v6.cell? ⟨w_1.heap.size, 0, none⟩ = some (.int .i64 x0) := (blk_cell V_was.out.blk 0).trans rfl
      have f_was_0 : v6.frozen? ⟨w_1.heap.size, 0, none⟩ = false := blk_frozen V_was.out.blk 0
      have c_was_1 : v6.cell? ⟨w_1.heap.size, 1, none⟩ = some (.int .i64 x1) := (blk_cell V_was.out.blk 1).trans rfl
      have f_was_1 : v6.frozen? ⟨w_1.heap.size, 1, none⟩ = false := blk_frozen V_was.out.blk 1
      have V_oth := n_oth
      clear n_oth
      have lt_oth : w_2.heap.size < v6.heap.size := blk_lt V_oth.out.blk
      have c_oth_0 : v6.cell? ⟨w_2.heap.size, 0, none⟩ = some (.int .i64 y0) := (blk_cell V_oth.out.blk 0).trans rfl
      have f_oth_0 : v6.frozen? ⟨w_2.heap.size, 0, none⟩ = false := blk_frozen V_oth.out.blk 0
      have c_oth_1 : v6.cell? ⟨w_2.heap.size, 1, none⟩ = some (.int .i64 y1) := (blk_cell V_oth.out.blk 1).trans rfl
      have f_oth_1 : v6.frozen? ⟨w_2.heap.size, 1, none⟩ = false := blk_frozen V_oth.out.blk 1
      have V_x := n_x
      clear n_x
      have lt_x : w_23.heap.size < v6.heap.size := blk_lt V_x.out.blk
      have c_x_0 : v6.cell? ⟨w_23.heap.size, 0, none⟩ = some (.int .i64 X0) := (blk_cell V_x.out.blk 0).trans rfl
      have f_x_0 : v6.frozen? ⟨w_23.heap.size, 0, none⟩ = false := blk_frozen V_x.out.blk 0
      have c_x_1 : v6.cell? ⟨w_23.heap.size, 1, none⟩ = some (.int .i64 X1) := (blk_cell V_x.out.blk 1).trans rfl
      have f_x_1 : v6.frozen? ⟨w_23.heap.size, 1, none⟩ = false := blk_frozen V_x.out.blk 1
      have nR := Lib.hid (R.out.below hb_)
      clear R
      have R := nR
      clear nR
      clear hb_ hw_
      refine (h1_get R.out.c b0 b1 k0 k1 HY.out).mono ?_
      rintro e_ w_24 ⟨rfl, hb_⟩
      have n_a : Hid (Var w_24 okh okc (w.heap.size) #[.int .i64 a0, .int .i64 a1] 23) := Lib.hid (V_a.out.below hb_)
      have n_i : Hid (Var w_24 okh okc (w.heap.size + 1) #[.int .i64 i0, .int .i64 i1] 23) := Lib.hid (V_i.out.below hb_)
      have n_b : Hid (Var w_24 okh okc (w.heap.size + 1 + 1) #[.int .i64 b0, .int .i64 b1] 23) := Lib.hid (V_b.out.below hb_)
      have n_k : Hid (Var w_24 okh okc (w.heap.size + 1 + 1 + 1) #[.int .i64 k0, .int .i64 k1] 23) := Lib.hid (V_k.out.below hb_)
      have n_was : Hid (Var w_24 okh okc (w_1.heap.size) #[.int .i64 x0, .int .i64 x1] 23) := Lib.hid (V_was.out.below hb_)
      have n_oth : Hid (Var w_24 okh okc (w_2.heap.size) #[.int .i64 y0, .int .i64 y1] 23) := Lib.hid (V_oth.out.below hb_)
      have n_x : Hid (Var w_24 okh okc (w_23.heap.size) #[.int .i64 X0, .int .i64 X1] 23) := Lib.hid (V_x.out.below hb_)
      clear V_a lt_a c_a_0 f_a_0 c_a_1 f_a_1 V_i lt_i c_i_0 f_i_0 c_i_1 f_i_1 V_b lt_b c_b_0 f_b_0 c_b_1 f_b_1 V_k lt_k c_k_0 f_k_0 c_k_1 f_k_1 V_was lt_was c_was_0 f_was_0 c_was_1 f_was_1 V_oth lt_oth c_oth_0 f_oth_0 c_oth_1 f_oth_1 V_x lt_x c_x_0 f_x_0 c_x_1 f_x_1
      have V_a := n_a
      clear n_a
      have lt_a : w.heap.size < w_24.heap.size := blk_lt V_a.out.blk
      have c_a_0 : w_24.cell? ⟨w.heap.size, 0, none⟩ = some (.int .i64 a0) := (blk_cell V_a.out.blk 0).trans rfl
      have f_a_0 : w_24.frozen? ⟨w.heap.size, 0, none⟩ = false := blk_frozen V_a.out.blk 0
      have c_a_1 : w_24.cell? ⟨w.heap.size, 1, none⟩ = some (.int .i64 a1) := (blk_cell V_a.out.blk 1).trans rfl
      have f_a_1 : w_24.frozen? ⟨w.heap.size, 1, none⟩ = false := blk_frozen V_a.out.blk 1
      have V_i := n_i
      clear n_i
      have lt_i : w.heap.size + 1 < w_24.heap.size := blk_lt V_i.out.blk
      have c_i_0 : w_24.cell? ⟨w.heap.size + 1, 0, none⟩ = some (.int .i64 i0) := (blk_cell V_i.out.blk 0).trans rfl
      have f_i_0 : w_24.frozen? ⟨w.heap.size + 1, 0, none⟩ = false := blk_frozen V_i.out.blk 0
      have c_i_1 : w_24.cell? ⟨w.heap.size + 1, 1, none⟩ = some (.int .i64 i1) := (blk_cell V_i.out.blk 1).trans rfl
      have f_i_1 : w_24.frozen? ⟨w.heap.size + 1, 1, none⟩ = false := blk_frozen V_i.out.blk 1
      have V_b := n_b
      clear n_b
      have lt_b : w.heap.size + 1 + 1 < w_24.heap.size := blk_lt V_b.out.blk
      have c_b_0 : w_24.cell? ⟨w.heap.size + 1 + 1, 0, none⟩ = some (.int .i64 b0) := (blk_cell V_b.out.blk 0).trans rfl
      have f_b_0 : w_24.frozen? ⟨w.heap.size + 1 + 1, 0, none⟩ = false := blk_frozen V_b.out.blk 0
      have c_b_1 : w_24.cell? ⟨w.heap.size + 1 + 1, 1, none⟩ = some (.int .i64 b1) := (blk_cell V_b.out.blk 1).trans rfl
      have f_b_1 : w_24.frozen? ⟨w.heap.size + 1 + 1, 1, none⟩ = false := blk_frozen V_b.out.blk 1
      have V_k := n_k
      clear n_k
      have lt_k : w.heap.size + 1 + 1 + 1 < w_24.heap.size := blk_lt V_k.out.blk
      have c_k_0 : w_24.cell? ⟨w.heap.size + 1 + 1 + 1, 0, none⟩ = some (.int .i64 k0) := (blk_cell V_k.out.blk 0).trans rfl
      have f_k_0 : w_24.frozen? ⟨w.heap.size + 1 + 1 + 1, 0, none⟩ = false := blk_frozen V_k.out.blk 0
      have c_k_1 : w_24.cell? ⟨w.heap.size + 1 + 1 + 1, 1, none⟩ = some (.int .i64 k1) := (blk_cell V_k.out.blk 1).trans rfl
      have f_k_1 : w_24.frozen? ⟨w.heap.size + 1 + 1 + 1, 1, none⟩ = false := blk_frozen V_k.out.blk 1
      have V_was := n_was
      clear n_was
      have lt_was : w_1.heap.size < w_24.heap.size := blk_lt V_was.out.blk
      have c_was_0 : w_24.cell? ⟨w_1.heap.size, 0, none⟩ = some (.int .i64 x0) := (blk_cell V_was.out.blk 0).trans rfl
      have f_was_0 : w_24.frozen? ⟨w_1.heap.size, 0, none⟩ = false := blk_frozen V_was.out.blk 0
      have c_was_1 : w_24.cell? ⟨w_1.heap.size, 1, none⟩ = some (.int .i64 x1) := (blk_cell V_was.out.blk 1).trans rfl
      have f_was_1 : w_24.frozen? ⟨w_1.heap.size, 1, none⟩ = false := blk_frozen V_was.out.blk 1
      have V_oth := n_oth
      clear n_oth
      have lt_oth : w_2.heap.size < w_24.heap.size := blk_lt V_oth.out.blk
      have c_oth_0 : w_24.cell? ⟨w_2.heap.size, 0, none⟩ = some (.int .i64 y0) := (blk_cell V_oth.out.blk 0).trans rfl
      have f_oth_0 : w_24.frozen? ⟨w_2.heap.size, 0, none⟩ = false := blk_frozen V_oth.out.blk 0
      have c_oth_1 : w_24.cell? ⟨w_2.heap.size, 1, none⟩ = some (.int .i64 y1) := (blk_cell V_oth.out.blk 1).trans rfl
      have f_oth_1 : w_24.frozen? ⟨w_2.heap.size, 1, none⟩ = false := blk_frozen V_oth.out.blk 1
      have V_x := n_x
      clear n_x
      have lt_x : w_23.heap.size < w_24.heap.size := blk_lt V_x.out.blk
      have c_x_0 : w_24.cell? ⟨w_23.heap.size, 0, none⟩ = some (.int .i64 X0) := (blk_cell V_x.out.blk 0).trans rfl
      have f_x_0 : w_24.frozen? ⟨w_23.heap.size, 0, none⟩ = false := blk_frozen V_x.out.blk 0
      have c_x_1 : w_24.cell? ⟨w_23.heap.size, 1, none⟩ = some (.int .i64 X1) := (blk_cell V_x.out.blk 1).trans rfl
      have f_x_1 : w_24.frozen? ⟨w_23.heap.size, 1, none⟩ = false := blk_frozen V_x.out.blk 1
      have nR := Lib.hid (R.out.below hb_)
      clear R
      have R := nR
      clear nR
      clear hb_
      go_wp2_with fail
      obtain ⟨v7, hw_⟩ : ∃ W_, W_ = w_24.alloc (.cells #[.int .i64 z0, .int .i64 z1] 23) := ⟨_, rfl⟩
      rw [← hw_]
      have hb_ : Below w_24.heap.size w_24 v7 := by rw [hw_]; exact below_alloc (Below.refl _ _) _
      have n_a : Hid (Var v7 okh okc (w.heap.size) #[.int .i64 a0, .int .i64 a1] 23) := Lib.hid (V_a.out.below hb_)
      have n_i : Hid (Var v7 okh okc (w.heap.size + 1) #[.int .i64 i0, .int .i64 i1] 23) := Lib.hid (V_i.out.below hb_)
      have n_b : Hid (Var v7 okh okc (w.heap.size + 1 + 1) #[.int .i64 b0, .int .i64 b1] 23) := Lib.hid (V_b.out.below hb_)
      have n_k : Hid (Var v7 okh okc (w.heap.size + 1 + 1 + 1) #[.int .i64 k0, .int .i64 k1] 23) := Lib.hid (V_k.out.below hb_)
      have n_was : Hid (Var v7 okh okc (w_1.heap.size) #[.int .i64 x0, .int .i64 x1] 23) := Lib.hid (V_was.out.below hb_)
      have n_oth : Hid (Var v7 okh okc (w_2.heap.size) #[.int .i64 y0, .int .i64 y1] 23) := Lib.hid (V_oth.out.below hb_)
      have n_x : Hid (Var v7 okh okc (w_23.heap.size) #[.int .i64 X0, .int .i64 X1] 23) := Lib.hid (V_x.out.below hb_)
      have n_y : Hid (Var v7 okh okc (w_24.heap.size) #[.int .i64 z0, .int .i64 z1] 23) := Lib.hid (Var.fresh2 R.out (by rw [hw_]; exact heap_alloc_new _ _) (Nat.le_refl _))
      clear V_a lt_a c_a_0 f_a_0 c_a_1 f_a_1 V_i lt_i c_i_0 f_i_0 c_i_1 f_i_1 V_b lt_b c_b_0 f_b_0 c_b_1 f_b_1 V_k lt_k c_k_0 f_k_0 c_k_1 f_k_1 V_was lt_was c_was_0 f_was_0 c_was_1 f_was_1 V_oth lt_oth c_oth_0 f_oth_0 c_oth_1 f_oth_1 V_x lt_x c_x_0 f_x_0 c_x_1 f_x_1
      have V_a := n_a
      clear n_a
      have lt_a : w.heap.size < v7.heap.size := blk_lt V_a.out.blk
      have c_a_0 : v7.cell? ⟨w.heap.size, 0, none⟩ = some (.int .i64 a0) := (blk_cell V_a.out.blk 0).trans rfl
      have f_a_0 : v7.frozen? ⟨w.heap.size, 0, none⟩ = false := blk_frozen V_a.out.blk 0
      have c_a_1 : v7.cell? ⟨w.heap.size, 1, none⟩ = some (.int .i64 a1) := (blk_cell V_a.out.blk 1).trans rfl
      have f_a_1 : v7.frozen? ⟨w.heap.size, 1, none⟩ = false := blk_frozen V_a.out.blk 1
      have V_i := n_i
      clear n_i
      have lt_i : w.heap.size + 1 < v7.heap.size := blk_lt V_i.out.blk
      have c_i_0 : v7.cell? ⟨w.heap.size + 1, 0, none⟩ = some (.int .i64 i0) := (blk_cell V_i.out.blk 0).trans rfl
      have f_i_0 : v7.frozen? ⟨w.heap.size + 1, 0, none⟩ = false := blk_frozen V_i.out.blk 0
      have c_i_1 : v7.cell? ⟨w.heap.size + 1, 1, none⟩ = some (.int .i64 i1) := (blk_cell V_i.out.blk 1).trans rfl
      have f_i_1 : v7.frozen? ⟨w.heap.size + 1, 1, none⟩ = false := blk_frozen V_i.out.blk 1
      have V_b := n_b
      clear n_b
      have lt_b : w.heap.size + 1 + 1 < v7.heap.size := blk_lt V_b.out.blk
      have c_b_0 : v7.cell? ⟨w.heap.size + 1 + 1, 0, none⟩ = some (.int .i64 b0) := (blk_cell V_b.out.blk 0).trans rfl
      have f_b_0 : v7.frozen? ⟨w.heap.size + 1 + 1, 0, none⟩ = false := blk_frozen V_b.out.blk 0
      have c_b_1 : v7.cell? ⟨w.heap.size + 1 + 1, 1, none⟩ = some (.int .i64 b1) := (blk_cell V_b.out.blk 1).trans rfl
      have f_b_1 : v7.frozen? ⟨w.heap.size + 1 + 1, 1, none⟩ = false := blk_frozen V_b.out.blk 1
      have V_k := n_k
      clear n_k
      have lt_k : w.heap.size + 1 + 1 + 1 < v7.heap.size := blk_lt V_k.out.blk
      have c_k_0 : v7.cell? ⟨w.heap.size + 1 + 1 + 1, 0, none⟩ = some (.int .i64 k0) := (blk_cell V_k.out.blk 0).trans rfl
      have f_k_0 : v7.frozen? ⟨w.heap.size + 1 + 1 + 1, 0, none⟩ = false := blk_frozen V_k.out.blk 0
      have c_k_1 : v7.cell? ⟨w.heap.size + 1 + 1 + 1, 1, none⟩ = some (.int .i64 k1) := (blk_cell V_k.out.blk 1).trans rfl
      have f_k_1 : v7.frozen? ⟨w.heap.size + 1 + 1 + 1, 1, none⟩ = false := blk_frozen V_k.out.blk 1
      have V_was := n_was
      clear n_was
      have lt_was : w_1.heap.size < v7.heap.size := blk_lt V_was.out.blk
      have c_was_0 : v7.cell? ⟨w_1.heap.size, 0, none⟩ = some (.int .i64 x0) := (blk_cell V_was.out.blk 0).trans rfl
      have f_was_0 : v7.frozen? ⟨w_1.heap.size, 0, none⟩ = false := blk_frozen V_was.out.blk 0
      have c_was_1 : v7.cell? ⟨w_1.heap.size, 1, none⟩ = some (.int .i64 x1) := (blk_cell V_was.out.blk 1).trans rfl
      have f_was_1 : v7.frozen? ⟨w_1.heap.size, 1, none⟩ = false := blk_frozen V_was.out.blk 1
      have V_oth := n_oth
      clear n_oth
      have lt_oth : w_2.heap.size < v7.heap.size := blk_lt V_oth.out.blk
      have c_oth_0 : v7.cell? ⟨w_2.heap.size, 0, none⟩ = some (.int .i64 y0) := (blk_cell V_oth.out.blk 0).trans rfl
      have f_oth_0 : v7.frozen? ⟨w_2.heap.size, 0, none⟩ = false := blk_frozen V_oth.out.blk 0
      have c_oth_1 : v7.cell? ⟨w_2.heap.size, 1, none⟩ = some (.int .i64 y1) := (blk_cell V_oth.out.blk 1).trans rfl
      have f_oth_1 : v7.frozen? ⟨w_2.heap.size, 1, none⟩ = false := blk_frozen V_oth.out.blk 1
      have V_x := n_x
      clear n_x
      have lt_x : w_23.heap.size < v7.heap.size := blk_lt V_x.out.blk
      have c_x_0 : v7.cell? ⟨w_23.heap.size, 0, none⟩ = some (.int .i64 X0) := (blk_cell V_x.out.blk 0).trans rfl
      have f_x_0 : v7.frozen? ⟨w_23.heap.size, 0, none⟩ = false := blk_frozen V_x.out.blk 0
      have c_x_1 : v7.cell? ⟨w_23.heap.size, 1, none⟩ = some (.int .i64 X1) := (blk_cell V_x.out.blk 1).trans rfl
      have f_x_1 : v7.frozen? ⟨w_23.heap.size, 1, none⟩ = false := blk_frozen V_x.out.blk 1
      have V_y := n_y
      clear n_y
      have lt_y : w_24.heap.size < v7.heap.size := blk_lt V_y.out.blk
      have c_y_0 : v7.cell? ⟨w_24.heap.size, 0, none⟩ = some (.int .i64 z0) := (blk_cell V_y.out.blk 0).trans rfl
      have f_y_0 : v7.frozen? ⟨w_24.heap.size, 0, none⟩ = false := blk_frozen V_y.out.blk 0
      have c_y_1 : v7.cell? ⟨w_24.heap.size, 1, none⟩ = some (.int .i64 z1) := (blk_cell V_y.out.blk 1).trans rfl
      have f_y_1 : v7.frozen? ⟨w_24.heap.size, 1, none⟩ = false := blk_frozen V_y.out.blk 1
      have nR := Lib.hid (R.out.below hb_)
      clear R
      have R := nR
      clear nR
      clear hb_ hw_
      refine (h1_get R.out.h a0 a1 i0 i1 HG1.out).mono ?_
      rintro e_ w_25 ⟨rfl, hb_⟩
      have n_a : Hid (Var w_25 okh okc (w.heap.size) #[.int .i64 a0, .int .i64 a1] 23) := Lib.hid (V_a.out.below hb_)
      have n_i : Hid (Var w_25 okh okc (w.heap.size + 1) #[.int .i64 i0, .int .i64 i1] 23) := Lib.hid (V_i.out.below hb_)
      have n_b : Hid (Var w_25 okh okc (w.heap.size + 1 + 1) #[.int .i64 b0, .int .i64 b1] 23) := Lib.hid (V_b.out.below hb_)
      have n_k : Hid (Var w_25 okh okc (w.heap.size + 1 + 1 + 1) #[.int .i64 k0, .int .i64 k1] 23) := Lib.hid (V_k.out.below hb_)
      have n_was : Hid (Var w_25 okh okc (w_1.heap.size) #[.int .i64 x0, .int .i64 x1] 23) := Lib.hid (V_was.out.below hb_)
      have n_oth : Hid (Var w_25 okh okc (w_2.heap.size) #[.int .i64 y0, .int .i64 y1] 23) := Lib.hid (V_oth.out.below hb_)
      have n_x : Hid (Var w_25 okh okc (w_23.heap.size) #[.int .i64 X0, .int .i64 X1] 23) := Lib.hid (V_x.out.below hb_)
      have n_y : Hid (Var w_25 okh okc (w_24.heap.size) #[.int .i64 z0, .int .i64 z1] 23) := Lib.hid (V_y.out.below hb_)
      clear V_a lt_a c_a_0 f_a_0 c_a_1 f_a_1 V_i lt_i c_i_0 f_i_0 c_i_1 f_i_1 V_b lt_b c_b_0 f_b_0 c_b_1 f_b_1 V_k lt_k c_k_0 f_k_0 c_k_1 f_k_1 V_was lt_was c_was_0 f_was_0 c_was_1 f_was_1 V_oth lt_oth c_oth_0 f_oth_0 c_oth_1 f_oth_1 V_x lt_x c_x_0 f_x_0 c_x_1 f_x_1 V_y lt_y c_y_0 f_y_0 c_y_1 f_y_1
      have V_a := n_a
      clear n_a
      have lt_a : w.heap.size < w_25.heap.size := blk_lt V_a.out.blk
      have c_a_0 : w_25.cell? ⟨w.heap.size, 0, none⟩ = some (.int .i64 a0) := (blk_cell V_a.out.blk 0).trans rfl
      have f_a_0 : w_25.frozen? ⟨w.heap.size, 0, none⟩ = false := blk_frozen V_a.out.blk 0
      have c_a_1 : w_25.cell? ⟨w.heap.size, 1, none⟩ = some (.int .i64 a1) := (blk_cell V_a.out.blk 1).trans rfl
      have f_a_1 : w_25.frozen? ⟨w.heap.size, 1, none⟩ = false := blk_frozen V_a.out.blk 1
      have V_i := n_i
      clear n_i
      have lt_i : w.heap.size + 1 < w_25.heap.size := blk_lt V_i.out.blk
      have c_i_0 : w_25.cell? ⟨w.heap.size + 1, 0, none⟩ = some (.int .i64 i0) := (blk_cell V_i.out.blk 0).trans rfl
      have f_i_0 : w_25.frozen? ⟨w.heap.size + 1, 0, none⟩ = false := blk_frozen V_i.out.blk 0
      have c_i_1 : w_25.cell? ⟨w.heap.size + 1, 1, none⟩ = some (.int .i64 i1) := (blk_cell V_i.out.blk 1).trans rfl
      have f_i_1 : w_25.frozen? ⟨w.heap.size + 1, 1, none⟩ = false := blk_frozen V_i.out.blk 1
      have V_b := n_b
      clear n_b
      have lt_b : w.heap.size + 1 + 1 < w_25.heap.size := blk_lt V_b.out.blk
      have c_b_0 : w_25.cell? ⟨w.heap.size + 1 + 1, 0, none⟩ = some (.int .i64 b0) := (blk_cell V_b.out.blk 0).trans rfl
      have f_b_0 : w_25.frozen? ⟨w.heap.size + 1 + 1, 0, none⟩ = false := blk_frozen V_b.out.blk 0
      have c_b_1 : w_25.cell? ⟨w.heap.size + 1 + 1, 1, none⟩ = some (.int .i64 b1) := (blk_cell V_b.out.blk 1).trans rfl
      have f_b_1 : w_25.frozen? ⟨w.heap.size + 1 + 1, 1, none⟩ = false := blk_frozen V_b.out.blk 1
      have V_k := n_k
      clear n_k
      have lt_k : w.heap.size + 1 + 1 + 1 < w_25.heap.size := blk_lt V_k.out.blk
      have c_k_0 : w_25.cell? ⟨w.heap.size + 1 + 1 + 1, 0, none⟩ = some (.int .i64 k0) := (blk_cell V_k.out.blk 0).trans rfl
      have f_k_0 : w_25.frozen? ⟨w.heap.size + 1 + 1 + 1, 0, none⟩ = false := blk_frozen V_k.out.blk 0
      have c_k_1 : w_25.cell? ⟨w.heap.size + 1 + 1 + 1, 1, none⟩ = some (.int .i64 k1) := (blk_cell V_k.out.blk 1).trans rfl
      have f_k_1 : w_25.frozen? ⟨w.heap.size + 1 + 1 + 1, 1, none⟩ = false := blk_frozen V_k.out.blk 1
      have V_was := n_was
      clear n_was
      have lt_was : w_1.heap.size < w_25.heap.size := blk_lt V_was.out.blk
      have c_was_0 : w_25.cell? ⟨w_1.heap.size, 0, none⟩ = some (.int .i64 x0) := (blk_cell V_was.out.blk 0).trans rfl
      have f_was_0 : w_25.frozen? ⟨w_1.heap.size, 0, none⟩ = false := blk_frozen V_was.out.blk 0
      have c_was_1 : w_25.cell? ⟨w_1.heap.size, 1, none⟩ = some (.int .i64 x1) := (blk_cell V_was.out.blk 1).trans rfl
      have f_was_1 : w_25.frozen? ⟨w_1.heap.size, 1, none⟩ = false := blk_frozen V_was.out.blk 1
      have V_oth := n_oth
      clear n_oth
      have lt_oth : w_2.heap.size < w_25.heap.size := blk_lt V_oth.out.blk
      have c_oth_0 : w_25.cell? ⟨w_2.heap.size, 0, none⟩ = some (.int .i64 y0) := (blk_cell V_oth.out.blk 0).trans rfl
      have f_oth_0 : w_25.frozen? ⟨w_2.heap.size, 0, none⟩ = false := blk_frozen V_oth.out.blk 0
      have c_oth_1 : w_25.cell? ⟨w_2.heap.size, 1, none⟩ = some (.int .i64 y1) := (blk_cell V_oth.out.blk 1).trans rfl
      have f_oth_1 : w_25.frozen? ⟨w_2.heap.size, 1, none⟩ = false := blk_frozen V_oth.out.blk 1
      have V_x := n_x
      clear n_x
      have lt_x : w_23.heap.size < w_25.heap.size := blk_lt V_x.out.blk
      have c_x_0 : w_25.cell? ⟨w_23.heap.size, 0, none⟩ = some (.int .i64 X0) := (blk_cell V_x.out.blk 0).trans rfl
      have f_x_0 : w_25.frozen? ⟨w_23.heap.size, 0, none⟩ = false := blk_frozen V_x.out.blk 0
      have c_x_1 : w_25.cell? ⟨w_23.heap.size, 1, none⟩ = some (.int .i64 X1) := (blk_cell V_x.out.blk 1).trans rfl
      have f_x_1 : w_25.frozen? ⟨w_23.heap.size, 1, none⟩ = false := blk_frozen V_x.out.blk 1
      have V_y := n_y
      clear n_y
      have lt_y : w_24.heap.size < w_25.heap.size := blk_lt V_y.out.blk
      have c_y_0 : w_25.cell? ⟨w_24.heap.size, 0, none⟩ = some (.int .i64 z0) := (blk_cell V_y.out.blk 0).trans rfl
      have f_y_0 : w_25.frozen? ⟨w_24.heap.size, 0, none⟩ = false := blk_frozen V_y.out.blk 0
      have c_y_1 : w_25.cell? ⟨w_24.heap.size, 1, none⟩ = some (.int .i64 z1) := (blk_cell V_y.out.blk 1).trans rfl
      have f_y_1 : w_25.frozen? ⟨w_24.heap.size, 1, none⟩ = false := blk_frozen V_y.out.blk 1
      have nR := Lib.hid (R.out.below hb_)
      clear R
      have R := nR
      clear nR
      clear hb_
      go_wp2_with fail
      obtain ⟨v8, hw_⟩ : ∃ W_, W_ = w_25.alloc (.cells #[.int .i64 x0, .int .i64 x1] 23) := ⟨_, rfl⟩
      rw [← hw_]
      have hb_ : Below w_25.heap.size w_25 v8 := by rw [hw_]; exact below_alloc (Below.refl _ _) _
      have n_a : Hid (Var v8 okh okc (w.heap.size) #[.int .i64 a0, .int .i64 a1] 23) := Lib.hid (V_a.out.below hb_)
      have n_i : Hid (Var v8 okh okc (w.heap.size + 1) #[.int .i64 i0, .int .i64 i1] 23) := Lib.hid (V_i.out.below hb_)
      have n_b : Hid (Var v8 okh okc (w.heap.size + 1 + 1) #[.int .i64 b0, .int .i64 b1] 23) := Lib.hid (V_b.out.below hb_)
      have n_k : Hid (Var v8 okh okc (w.heap.size + 1 + 1 + 1) #[.int .i64 k0, .int .i64 k1] 23) := Lib.hid (V_k.out.below hb_)
      have n_was : Hid (Var v8 okh okc (w_1.heap.size) #[.int .i64 x0, .int .i64 x1] 23) := Lib.hid (V_was.out.below hb_)
      have n_oth : Hid (Var v8 okh okc (w_2.heap.size) #[.int .i64 y0, .int .i64 y1] 23) := Lib.hid (V_oth.out.below hb_)
      have n_x : Hid (Var v8 okh okc (w_23.heap.size) #[.int .i64 X0, .int .i64 X1] 23) := Lib.hid (V_x.out.below hb_)
      have n_y : Hid (Var v8 okh okc (w_24.heap.size) #[.int .i64 z0, .int .i64 z1] 23) := Lib.hid (V_y.out.below hb_)
      have n_st : Hid (Var v8 okh okc (w_25.heap.size) #[.int .i64 x0, .int .i64 x1] 23) := Lib.hid (Var.fresh2 R.out (by rw [hw_]; exact heap_alloc_new _ _) (Nat.le_refl _))
      clear V_a lt_a c_a_0 f_a_0 c_a_1 f_a_1 V_i lt_i c_i_0 f_i_0 c_i_1 f_i_1 V_b lt_b c_b_0 f_b_0 c_b_1 f_b_1 V_k lt_k c_k_0 f_k_0 c_k_1 f_k_1 V_was lt_was c_was_0 f_was_0 c_was_1 f_was_1 V_oth lt_oth c_oth_0 f_oth_0 c_oth_1 f_oth_1 V_x lt_x c_x_0 f_x_0 c_x_1 f_x_1 V_y lt_y c_y_0 f_y_0 c_y_1 f_y_1
      have V_a := n_a
      clear n_a
      have lt_a : w.heap.size < v8.heap.size := blk_lt V_a.out.blk
      have c_a_0 : v8.cell? ⟨w.heap.size, 0, none⟩ = some (.int .i64 a0) := (blk_cell V_a.out.blk 0).trans rfl
      have f_a_0 : v8.frozen? ⟨w.heap.size, 0, none⟩ = false := blk_frozen V_a.out.blk 0
      have c_a_1 : v8.cell? ⟨w.heap.size, 1, none⟩ = some (.int .i64 a1) := (blk_cell V_a.out.blk 1).trans rfl
      have f_a_1 : v8.frozen? ⟨w.heap.size, 1, none⟩ = false := blk_frozen V_a.out.blk 1
      have V_i := n_i
      clear n_i
      have lt_i : w.heap.size + 1 < v8.heap.size := blk_lt V_i.out.blk
      have c_i_0 : v8.cell? ⟨w.heap.size + 1, 0, none⟩ = some (.int .i64 i0) := (blk_cell V_i.out.blk 0).trans rfl
      have f_i_0 : v8.frozen? ⟨w.heap.size + 1, 0, none⟩ = false := blk_frozen V_i.out.blk 0
      have c_i_1 : v8.cell? ⟨w.heap.size + 1, 1, none⟩ = some (.int .i64 i1) := (blk_cell V_i.out.blk 1).trans rfl
      have f_i_1 : v8.frozen? ⟨w.heap.size + 1, 1, none⟩ = false := blk_frozen V_i.out.blk 1
      have V_b := n_b
      clear n_b
      have lt_b : w.heap.size + 1 + 1 < v8.heap.size := blk_lt V_b.out.blk
      have c_b_0 : v8.cell? ⟨w.heap.size + 1 + 1, 0, none⟩ = some (.int .i64 b0) := (blk_cell V_b.out.blk 0).trans rfl
      have f_b_0 : v8.frozen? ⟨w.heap.size + 1 + 1, 0, none⟩ = false := blk_frozen V_b.out.blk 0
      have c_b_1 : v8.cell? ⟨w.heap.size + 1 + 1, 1, none⟩ = some (.int .i64 b1) := (blk_cell V_b.out.blk 1).trans rfl
      have f_b_1 : v8.frozen? ⟨w.heap.size + 1 + 1, 1, none⟩ = false := blk_frozen V_b.out.blk 1
      have V_k := n_k
      clear n_k
      have lt_k : w.heap.size + 1 + 1 + 1 < v8.heap.size := blk_lt V_k.out.blk
      have c_k_0 : v8.cell? ⟨w.heap.size + 1 + 1 + 1, 0, none⟩ = some (.int .i64 k0) := (blk_cell V_k.out.blk 0).trans rfl
      have f_k_0 : v8.frozen? ⟨w.heap.size + 1 + 1 + 1, 0, none⟩ = false := blk_frozen V_k.out.blk 0
      have c_k_1 : v8.cell? ⟨w.heap.size + 1 + 1 + 1, 1, none⟩ = some (.int .i64 k1) := (blk_cell V_k.out.blk 1).trans rfl
      have f_k_1 : v8.frozen? ⟨w.heap.size + 1 + 1 + 1, 1, none⟩ = false := blk_frozen V_k.out.blk 1
      have V_was := n_was
      clear n_was
      have lt_was : w_1.heap.size < v8.heap.size := blk_lt V_was.out.blk
      have c_was_0 : v8.cell? ⟨w_1.heap.size, 0, none⟩ = some (.int .i64 x0) := (blk_cell V_was.out.blk 0).trans rfl
      have f_was_0 : v8.frozen? ⟨w_1.heap.size, 0, none⟩ = false := blk_frozen V_was.out.blk 0
      have c_was_1 : v8.cell? ⟨w_1.heap.size, 1, none⟩ = some (.int .i64 x1) := (blk_cell V_was.out.blk 1).trans rfl
      have f_was_1 : v8.frozen? ⟨w_1.heap.size, 1, none⟩ = false := blk_frozen V_was.out.blk 1
      have V_oth := n_oth
      clear n_oth
      have lt_oth : w_2.heap.size < v8.heap.size := blk_lt V_oth.out.blk
      have c_oth_0 : v8.cell? ⟨w_2.heap.size, 0, none⟩ = some (.int .i64 y0) := (blk_cell V_oth.out.blk 0).trans rfl
      have f_oth_0 : v8.frozen? ⟨w_2.heap.size, 0, none⟩ = false := blk_frozen V_oth.out.blk 0
      have c_oth_1 : v8.cell? ⟨w_2.heap.size, 1, none⟩ = some (.int .i64 y1) := (blk_cell V_oth.out.blk 1).trans rfl
      have f_oth_1 : v8.frozen? ⟨w_2.heap.size, 1, none⟩ = false := blk_frozen V_oth.out.blk 1
      have V_x := n_x
      clear n_x
      have lt_x : w_23.heap.size < v8.heap.size := blk_lt V_x.out.blk
      have c_x_0 : v8.cell? ⟨w_23.heap.size, 0, none⟩ = some (.int .i64 X0) := (blk_cell V_x.out.blk 0).trans rfl
      have f_x_0 : v8.frozen? ⟨w_23.heap.size, 0, none⟩ = false := blk_frozen V_x.out.blk 0
      have c_x_1 : v8.cell? ⟨w_23.heap.size, 1, none⟩ = some (.int .i64 X1) := (blk_cell V_x.out.blk 1).trans rfl
      have f_x_1 : v8.frozen? ⟨w_23.heap.size, 1, none⟩ = false := blk_frozen V_x.out.blk 1
      have V_y := n_y
      clear n_y
      have lt_y : w_24.heap.size < v8.heap.size := blk_lt V_y.out.blk
      have c_y_0 : v8.cell? ⟨w_24.heap.size, 0, none⟩ = some (.int .i64 z0) := (blk_cell V_y.out.blk 0).trans rfl
      have f_y_0 : v8.frozen? ⟨w_24.heap.size, 0, none⟩ = false := blk_frozen V_y.out.blk 0
      have c_y_1 : v8.cell? ⟨w_24.heap.size, 1, none⟩ = some (.int .i64 z1) := (blk_cell V_y.out.blk 1).trans rfl
      have f_y_1 : v8.frozen? ⟨w_24.heap.size, 1, none⟩ = false := blk_frozen V_y.out.blk 1
      have V_st := n_st
      clear n_st
      have lt_st : w_25.heap.size < v8.heap.size := blk_lt V_st.out.blk
      have c_st_0 : v8.cell? ⟨w_25.heap.size, 0, none⟩ = some (.int .i64 x0) := (blk_cell V_st.out.blk 0).trans rfl
      have f_st_0 : v8.frozen? ⟨w_25.heap.size, 0, none⟩ = false := blk_frozen V_st.out.blk 0
      have c_st_1 : v8.cell? ⟨w_25.heap.size, 1, none⟩ = some (.int .i64 x1) := (blk_cell V_st.out.blk 1).trans rfl
      have f_st_1 : v8.frozen? ⟨w_25.heap.size, 1, none⟩ = false := blk_frozen V_st.out.blk 1
      have nR := Lib.hid (R.out.below hb_)
      clear R
      have R := nR
      clear nR
      clear hb_ hw_
      go_cut [131] from 96 to 131 (fun s_ wx => s_ = .bool false ∧ Below v8.heap.size v8 wx)
      case first =>
        obtain ⟨h1_, h2_⟩ := HE.out
        by_cases he : e = 0
        · obtain ⟨rfl, rfl⟩ := h1_ he
          subst he
          clear h2_ h1_
          refine start_ (n := 36) (S := fun w' => w'.cell? ⟨w_25.heap.size, 0, none⟩ = some (.int .i64 x0) ∧ w'.cell? ⟨w_25.heap.size, 1, none⟩ = some (.int .i64 x1) ∧ w'.cell? ⟨w_1.heap.size, 0, none⟩ = some (.int .i64 x0) ∧ w'.cell? ⟨w_1.heap.size, 1, none⟩ = some (.int .i64 x1) ∧ w'.cell? ⟨w_23.heap.size, 0, none⟩ = some (.int .i64 1) ∧ w'.cell? ⟨w_23.heap.size, 1, none⟩ = some (.int .i64 n)) (ds := []) #[false, false, false, false, false, false, false, false, false, false, false, false, false, false, false, false, false, false, false, false, false, false, false, false, false, false, false, false, false, false, false, false, false, false, false, false] (by kernel_rfl) rfl rfl ⟨cell_drew c_st_0, cell_drew c_st_1, cell_drew c_was_0, cell_drew c_was_1, cell_drew c_x_0, cell_drew c_x_1⟩ (fun hHeld => ?_)
          refine pure_ (i := 0) (N := some 96) (v := ?_) (a' := ?_) #[true, false, false, false, false, false, false, false, false, false, false, false, false, false, false, false, false, false, false, false, false, false, false, false, false, false, false, false, false, false, false, false, false, false, false, false] rfl rfl (by kernel_rfl) (fun _ _ _ h => h) (Or.inl ⟨by rfl, ?_⟩) ?_ ?_
          rotate_left
          · intro w'
            go_simp
            with_reducible rfl
          rotate_left
          · simp only [Act.put, List.setIfInBounds_toArray, List.set_cons_zero, List.set_cons_succ, i64_w, i32_w]
            rfl
          refine pure_ (i := 1) (N := some 97) (v := ?_) (a' := ?_) #[true, true, false, false, false, false, false, false, false, false, false, false, false, false, false, false, false, false, false, false, false, false, false, false, false, false, false, false, false, false, false, false, false, false, false, false] rfl rfl (by kernel_rfl) (fun _ _ _ h => h) (Or.inl ⟨by rfl, ?_⟩) ?_ ?_
          rotate_left
          · intro w'
            go_simp
            with_reducible rfl
          rotate_left
          · simp only [Act.put, List.setIfInBounds_toArray, List.set_cons_zero, List.set_cons_succ, i64_w, i32_w]
            rfl
          refine pure_ (i := 2) (N := some 98) (v := ?_) (a' := ?_) #[true, true, true, false, false, false, false, false, false, false, false, false, false, false, false, false, false, false, false, false, false, false, false, false, false, false, false, false, false, false, false, false, false, false, false, false] rfl rfl (by kernel_rfl) (fun _ _ _ h => h) (Or.inl ⟨by rfl, ?_⟩) ?_ ?_
          rotate_left
          · intro w'
            go_simp
            with_reducible rfl
          rotate_left
          · simp only [Act.put, List.setIfInBounds_toArray, List.set_cons_zero, List.set_cons_succ, i64_w, i32_w]
            rfl
          refine pure_ (i := 3) (N := some 99) (v := ?_) (a' := ?_) #[true, true, true, true, false, false, false, false, false, false, false, false, false, false, false, false, false, false, false, false, false, false, false, false, false, false, false, false, false, false, false, false, false, false, false, false] rfl rfl (by kernel_rfl) (fun _ _ _ h => h) (Or.inl ⟨by rfl, ?_⟩) ?_ ?_
          rotate_left
          · intro w'
            go_simp
            with_reducible rfl
          rotate_left
          · simp only [Act.put, List.setIfInBounds_toArray, List.set_cons_zero, List.set_cons_succ, i64_w, i32_w]
            rfl
          refine take_ (i := 4) (N := some 100) (v := ?_) (a' := ?_) #[true, true, true, true, true, false, false, false, false, false, false, false, false, false, false, false, false, false, false, false, false, false, false, false, false, false, false, false, false, false, false, false, false, false, false, false] rfl rfl (by kernel_rfl) (fun _ _ _ h => h) (Or.inl ⟨by rfl, ?_⟩) hHeld ?_ ?_
          rotate_left
          · rintro w' ⟨s0, s1, s2, s3, s4, s5⟩
            go_simp
            with_reducible rfl
          rotate_left
          · simp only [Act.put, List.setIfInBounds_toArray, List.set_cons_zero, List.set_cons_succ, i64_w, i32_w]
            rfl
          refine take_ (i := 5) (N := some 101) (v := ?_) (a' := ?_) #[true, true, true, true, true, true, false, false, false, false, false, false, false, false, false, false, false, false, false, false, false, false, false, false, false, false, false, false, false, false, false, false, false, false, false, false] rfl rfl (by kernel_rfl) (fun _ _ _ h => h) (Or.inl ⟨by rfl, ?_⟩) hHeld ?_ ?_
          rotate_left
          · rintro w' ⟨s0, s1, s2, s3, s4, s5⟩
            go_simp
            with_reducible rfl
          rotate_left
          · simp only [Act.put, List.setIfInBounds_toArray, List.set_cons_zero, List.set_cons_succ, i64_w, i32_w]
            rfl
          refine pure_ (i := 6) (N := some 102) (v := ?_) (a' := ?_) #[true, true, true, true, true, true, true, false, false, false, false, false, false, false, false, false, false, false, false, false, false, false, false, false, false, false, false, false, false, false, false, false, false, false, false, false] rfl rfl (by kernel_rfl) (fun _ _ _ h => h) (Or.inl ⟨by rfl, ?_⟩) ?_ ?_
          rotate_left
          · intro w'
            go_simp
            with_reducible rfl
          rotate_left
          · simp only [Act.put, List.setIfInBounds_toArray, List.set_cons_zero, List.set_cons_succ, i64_w, i32_w]
            rfl
          refine pure_ (i := 7) (N := some 103) (v := ?_) (a' := ?_) #[true, true, true, true, true, true, true, true, false, false, false, false, false, false, false, false, false, false, false, false, false, false, false, false, false, false, false, false, false, false, false, false, false, false, false, false] rfl rfl (by kernel_rfl) (fun _ _ _ h => h) (Or.inl ⟨by rfl, ?_⟩) ?_ ?_
          rotate_left
          · intro w'
            go_simp
            with_reducible rfl
          rotate_left
          · simp only [Act.put, List.setIfInBounds_toArray, List.set_cons_zero, List.set_cons_succ, i64_w, i32_w]
            rfl
          refine pure_ (i := 8) (N := some 104) (v := ?_) (a' := ?_) #[true, true, true, true, true, true, true, true, true, false, false, false, false, false, false, false, false, false, false, false, false, false, false, false, false, false, false, false, false, false, false, false, false, false, false, false] rfl rfl (by kernel_rfl) (fun _ _ _ h => h) (Or.inl ⟨by rfl, ?_⟩) ?_ ?_
          rotate_left
          · intro w'
            go_simp
            with_reducible rfl
          rotate_left
          · simp only [Act.put, List.setIfInBounds_toArray, List.set_cons_zero, List.set_cons_succ, i64_w, i32_w]
            rfl
          refine pure_ (i := 9) (N := some 105) (v := ?_) (a' := ?_) #[true, true, true, true, true, true, true, true, true, true, false, false, false, false, false, false, false, false, false, false, false, false, false, false, false, false, false, false, false, false, false, false, false, false, false, false] rfl rfl (by kernel_rfl) (fun _ _ _ h => h) (Or.inl ⟨by rfl, ?_⟩) ?_ ?_
          rotate_left
          · intro w'
            go_simp
            with_reducible rfl
          rotate_left
          · simp only [Act.put, List.setIfInBounds_toArray, List.set_cons_zero, List.set_cons_succ, i64_w, i32_w]
            rfl
          refine pure_ (i := 10) (N := some 106) (v := ?_) (a' := ?_) #[true, true, true, true, true, true, true, true, true, true, true, false, false, false, false, false, false, false, false, false, false, false, false, false, false, false, false, false, false, false, false, false, false, false, false, false] rfl rfl (by kernel_rfl) (fun _ _ _ h => h) (Or.inl ⟨by rfl, ?_⟩) ?_ ?_
          rotate_left
          · intro w'
            go_simp
            with_reducible rfl
          rotate_left
          · simp only [Act.put, List.setIfInBounds_toArray, List.set_cons_zero, List.set_cons_succ, i64_w, i32_w]
            rfl
          refine pure_ (i := 11) (N := some 107) (v := ?_) (a' := ?_) #[true, true, true, true, true, true, true, true, true, true, true, true, false, false, false, false, false, false, false, false, false, false, false, false, false, false, false, false, false, false, false, false, false, false, false, false] rfl rfl (by kernel_rfl) (fun _ _ _ h => h) (Or.inl ⟨by rfl, ?_⟩) ?_ ?_
          rotate_left
          · intro w'
            go_simp
            with_reducible rfl
          rotate_left
          · simp only [Act.put, List.setIfInBounds_toArray, List.set_cons_zero, List.set_cons_succ, i64_w, i32_w]
            rfl
          refine pure_ (i := 12) (N := some 108) (v := ?_) (a' := ?_) #[true, true, true, true, true, true, true, true, true, true, true, true, true, false, false, false, false, false, false, false, false, false, false, false, false, false, false, false, false, false, false, false, false, false, false, false] rfl rfl (by kernel_rfl) (fun _ _ _ h => h) (Or.inl ⟨by rfl, ?_⟩) ?_ ?_
          rotate_left
          · intro w'
            go_simp
            with_reducible rfl
          rotate_left
          · simp only [Act.put, List.setIfInBounds_toArray, List.set_cons_zero, List.set_cons_succ, i64_w, i32_w]
            rfl
          refine pure_ (i := 13) (N := some 109) (v := ?_) (a' := ?_) #[true, true, true, true, true, true, true, true, true, true, true, true, true, true, false, false, false, false, false, false, false, false, false, false, false, false, false, false, false, false, false, false, false, false, false, false] rfl rfl (by kernel_rfl) (fun _ _ _ h => h) (Or.inl ⟨by rfl, ?_⟩) ?_ ?_
          rotate_left
          · intro w'
            go_simp
            with_reducible rfl
          rotate_left
          · simp only [Act.put, List.setIfInBounds_toArray, List.set_cons_zero, List.set_cons_succ, i64_w, i32_w]
            rfl
          refine pure_ (i := 14) (N := some 110) (v := ?_) (a' := ?_) #[true, true, true, true, true, true, true, true, true, true, true, true, true, true, true, false, false, false, false, false, false, false, false, false, false, false, false, false, false, false, false, false, false, false, false, false] rfl rfl (by kernel_rfl) (fun _ _ _ h => h) (Or.inl ⟨by rfl, ?_⟩) ?_ ?_
          rotate_left
          · intro w'
            go_simp
            with_reducible rfl
          rotate_left
          · simp only [Act.put, List.setIfInBounds_toArray, List.set_cons_zero, List.set_cons_succ, i64_w, i32_w]
            rfl
          refine pure_ (i := 15) (N := some 111) (v := ?_) (a' := ?_) #[true, true, true, true, true, true, true, true, true, true, true, true, true, true, true, true, false, false, false, false, false, false, false, false, false, false, false, false, false, false, false, false, false, false, false, false] rfl rfl (by kernel_rfl) (fun _ _ _ h => h) (Or.inl ⟨by rfl, ?_⟩) ?_ ?_
          rotate_left
          · intro w'
            go_simp
            with_reducible rfl
          rotate_left
          · simp only [Act.put, List.setIfInBounds_toArray, List.set_cons_zero, List.set_cons_succ, i64_w, i32_w]
            rfl
          refine pure_ (i := 16) (N := some 112) (v := ?_) (a' := ?_) #[true, true, true, true, true, true, true, true, true, true, true, true, true, true, true, true, true, false, false, false, false, false, false, false, false, false, false, false, false, false, false, false, false, false, false, false] rfl rfl (by kernel_rfl) (fun _ _ _ h => h) (Or.inl ⟨by rfl, ?_⟩) ?_ ?_
          rotate_left
          · intro w'
            go_simp
            with_reducible rfl
          rotate_left
          · simp only [Act.put, List.setIfInBounds_toArray, List.set_cons_zero, List.set_cons_succ, i64_w, i32_w]
            rfl
          refine pure_ (i := 18) (N := some 114) (v := ?_) (a' := ?_) #[true, true, true, true, true, true, true, true, true, true, true, true, true, true, true, true, true, false, true, false, false, false, false, false, false, false, false, false, false, false, false, false, false, false, false, false] rfl rfl (by kernel_rfl) (fun _ _ _ h => h) (Or.inl ⟨by rfl, ?_⟩) ?_ ?_
          rotate_left
          · intro w'
            go_simp
            with_reducible rfl
          rotate_left
          · simp only [Act.put, List.setIfInBounds_toArray, List.set_cons_zero, List.set_cons_succ, i64_w, i32_w]
            rfl
          refine take_ (i := 17) (N := some 113) (v := ?_) (a' := ?_) #[true, true, true, true, true, true, true, true, true, true, true, true, true, true, true, true, true, true, true, false, false, false, false, false, false, false, false, false, false, false, false, false, false, false, false, false] rfl rfl (by kernel_rfl) (fun _ _ _ h => h) (Or.inl ⟨by rfl, ?_⟩) hHeld ?_ ?_
          rotate_left
          · rintro w' ⟨s0, s1, s2, s3, s4, s5⟩
            go_simp
            with_reducible rfl
          rotate_left
          · simp only [Act.put, List.setIfInBounds_toArray, List.set_cons_zero, List.set_cons_succ, i64_w, i32_w]
            rfl
          refine one_ (i := 19) (N := some 115) #[true, true, true, true, true, true, true, true, true, true, true, true, true, true, true, true, true, true, true, true, false, false, false, false, false, false, false, false, false, false, false, false, false, false, false, false] rfl rfl (by kernel_rfl) (by decide) (fun K hK => ?_)
          refine goes_ Try.func16 (by kernel_rfl) rfl #[.int .i64 n] (by rfl) rfl rfl (by simp only [List.map_toArray, List.map_cons, List.map_nil]; rfl) ?_
          with_reducible refine (runnellaw9_num.calls n 1 n _ rfl).mono ?_
          rintro e_ v9 ⟨rfl, hb_⟩
          refine ⟨_, rfl, ?_⟩
          have Q_v9 := Lib.hid (below_step (below_drew (Below.refl v8.heap.size v8)) hb_)
          have P_v9 := Lib.hid hb_
          clear hb_
          refine hK.out _ _ ⟨pw_cell_below P_v9.out hHeld.1, pw_cell_below P_v9.out hHeld.2.1, pw_cell_below P_v9.out hHeld.2.2.1, pw_cell_below P_v9.out hHeld.2.2.2.1, pw_cell_below P_v9.out hHeld.2.2.2.2.1, pw_cell_below P_v9.out hHeld.2.2.2.2.2⟩ (fun hHeld => ?_)
          clear hK K
          refine norm_ (a' := ?_) ?_ ?_
          rotate_left
          · show Act.put _ (some 115) _ = _
            simp only [Act.put, List.setIfInBounds_toArray, List.set_cons_zero, List.set_cons_succ, i64_w, i32_w]
            rfl
          refine pure_ (i := 20) (N := some 116) (v := ?_) (a' := ?_) #[true, true, true, true, true, true, true, true, true, true, true, true, true, true, true, true, true, true, true, true, true, false, false, false, false, false, false, false, false, false, false, false, false, false, false, false] rfl rfl (by kernel_rfl) (fun _ _ _ h => h) (Or.inl ⟨by rfl, ?_⟩) ?_ ?_
          rotate_left
          · intro w'
            go_simp
            with_reducible rfl
          rotate_left
          · simp only [Act.put, List.setIfInBounds_toArray, List.set_cons_zero, List.set_cons_succ, i64_w, i32_w]
            rfl
          refine pure_ (i := 21) (N := some 117) (v := ?_) (a' := ?_) #[true, true, true, true, true, true, true, true, true, true, true, true, true, true, true, true, true, true, true, true, true, true, false, false, false, false, false, false, false, false, false, false, false, false, false, false] rfl rfl (by kernel_rfl) (fun _ _ _ h => h) (Or.inl ⟨by rfl, ?_⟩) ?_ ?_
          rotate_left
          · intro w'
            go_simp
            with_reducible rfl
          rotate_left
          · simp only [Act.put, List.setIfInBounds_toArray, List.set_cons_zero, List.set_cons_succ, i64_w, i32_w]
            rfl
          refine pure_ (i := 22) (N := some 118) (v := ?_) (a' := ?_) #[true, true, true, true, true, true, true, true, true, true, true, true, true, true, true, true, true, true, true, true, true, true, true, false, false, false, false, false, false, false, false, false, false, false, false, false] rfl rfl (by kernel_rfl) (fun _ _ _ h => h) (Or.inl ⟨by rfl, ?_⟩) ?_ ?_
          rotate_left
          · intro w'
            go_simp
            with_reducible rfl
          rotate_left
          · simp only [Act.put, List.setIfInBounds_toArray, List.set_cons_zero, List.set_cons_succ, i64_w, i32_w]
            rfl
          refine pure_ (i := 23) (N := some 119) (v := ?_) (a' := ?_) #[true, true, true, true, true, true, true, true, true, true, true, true, true, true, true, true, true, true, true, true, true, true, true, true, false, false, false, false, false, false, false, false, false, false, false, false] rfl rfl (by kernel_rfl) (fun _ _ _ h => h) (Or.inl ⟨by rfl, ?_⟩) ?_ ?_
          rotate_left
          · intro w'
            go_simp
            with_reducible rfl
          rotate_left
          · simp only [Act.put, List.setIfInBounds_toArray, List.set_cons_zero, List.set_cons_succ, i64_w, i32_w]
            rfl
          refine pure_ (i := 24) (N := some 120) (v := ?_) (a' := ?_) #[true, true, true, true, true, true, true, true, true, true, true, true, true, true, true, true, true, true, true, true, true, true, true, true, true, false, false, false, false, false, false, false, false, false, false, false] rfl rfl (by kernel_rfl) (fun _ _ _ h => h) (Or.inl ⟨by rfl, ?_⟩) ?_ ?_
          rotate_left
          · intro w'
            go_simp
            with_reducible rfl
          rotate_left
          · simp only [Act.put, List.setIfInBounds_toArray, List.set_cons_zero, List.set_cons_succ, i64_w, i32_w]
            rfl
          refine pure_ (i := 25) (N := some 121) (v := ?_) (a' := ?_) #[true, true, true, true, true, true, true, true, true, true, true, true, true, true, true, true, true, true, true, true, true, true, true, true, true, true, false, false, false, false, false, false, false, false, false, false] rfl rfl (by kernel_rfl) (fun _ _ _ h => h) (Or.inl ⟨by rfl, ?_⟩) ?_ ?_
          rotate_left
          · intro w'
            go_simp
            with_reducible rfl
          rotate_left
          · simp only [Act.put, List.setIfInBounds_toArray, List.set_cons_zero, List.set_cons_succ, i64_w, i32_w]
            rfl
          refine pure_ (i := 26) (N := some 122) (v := ?_) (a' := ?_) #[true, true, true, true, true, true, true, true, true, true, true, true, true, true, true, true, true, true, true, true, true, true, true, true, true, true, true, false, false, false, false, false, false, false, false, false] rfl rfl (by kernel_rfl) (fun _ _ _ h => h) (Or.inl ⟨by rfl, ?_⟩) ?_ ?_
          rotate_left
          · intro w'
            go_simp
            with_reducible rfl
          rotate_left
          · simp only [Act.put, List.setIfInBounds_toArray, List.set_cons_zero, List.set_cons_succ, i64_w, i32_w]
            rfl
          refine pure_ (i := 27) (N := some 123) (v := ?_) (a' := ?_) #[true, true, true, true, true, true, true, true, true, true, true, true, true, true, true, true, true, true, true, true, true, true, true, true, true, true, true, true, false, false, false, false, false, false, false, false] rfl rfl (by kernel_rfl) (fun _ _ _ h => h) (Or.inl ⟨by rfl, ?_⟩) ?_ ?_
          rotate_left
          · intro w'
            go_simp
            with_reducible rfl
          rotate_left
          · simp only [Act.put, List.setIfInBounds_toArray, List.set_cons_zero, List.set_cons_succ, i64_w, i32_w]
            rfl
          refine pure_ (i := 28) (N := some 124) (v := ?_) (a' := ?_) #[true, true, true, true, true, true, true, true, true, true, true, true, true, true, true, true, true, true, true, true, true, true, true, true, true, true, true, true, true, false, false, false, false, false, false, false] rfl rfl (by kernel_rfl) (fun _ _ _ h => h) (Or.inl ⟨by rfl, ?_⟩) ?_ ?_
          rotate_left
          · intro w'
            go_simp
            with_reducible rfl
          rotate_left
          · simp only [Act.put, List.setIfInBounds_toArray, List.set_cons_zero, List.set_cons_succ, i64_w, i32_w]
            rfl
          refine pure_ (i := 29) (N := some 125) (v := ?_) (a' := ?_) #[true, true, true, true, true, true, true, true, true, true, true, true, true, true, true, true, true, true, true, true, true, true, true, true, true, true, true, true, true, true, false, false, false, false, false, false] rfl rfl (by kernel_rfl) (fun _ _ _ h => h) (Or.inl ⟨by rfl, ?_⟩) ?_ ?_
          rotate_left
          · intro w'
            go_simp
            with_reducible rfl
          rotate_left
          · simp only [Act.put, List.setIfInBounds_toArray, List.set_cons_zero, List.set_cons_succ, i64_w, i32_w]
            rfl
          refine pure_ (i := 30) (N := some 126) (v := ?_) (a' := ?_) #[true, true, true, true, true, true, true, true, true, true, true, true, true, true, true, true, true, true, true, true, true, true, true, true, true, true, true, true, true, true, true, false, false, false, false, false] rfl rfl (by kernel_rfl) (fun _ _ _ h => h) (Or.inl ⟨by rfl, ?_⟩) ?_ ?_
          rotate_left
          · intro w'
            go_simp
            with_reducible rfl
          rotate_left
          · simp only [Act.put, List.setIfInBounds_toArray, List.set_cons_zero, List.set_cons_succ, i64_w, i32_w]
            rfl
          refine pure_ (i := 31) (N := some 127) (v := undef) (a' := ?_) #[true, true, true, true, true, true, true, true, true, true, true, true, true, true, true, true, true, true, true, true, true, true, true, true, true, true, true, true, true, true, true, true, false, false, false, false] rfl rfl (by kernel_rfl) (fun _ _ _ h => h) (Or.inr ⟨by rfl, rfl⟩) ?_ ?_
          rotate_left
          · simp only [Act.put, List.setIfInBounds_toArray, List.set_cons_zero, List.set_cons_succ, i64_w, i32_w]
            rfl
          refine pure_ (i := 32) (N := some 128) (v := undef) (a' := ?_) #[true, true, true, true, true, true, true, true, true, true, true, true, true, true, true, true, true, true, true, true, true, true, true, true, true, true, true, true, true, true, true, true, true, false, false, false] rfl rfl (by kernel_rfl) (fun _ _ _ h => h) (Or.inr ⟨by rfl, rfl⟩) ?_ ?_
          rotate_left
          · simp only [Act.put, List.setIfInBounds_toArray, List.set_cons_zero, List.set_cons_succ, i64_w, i32_w]
            rfl
          refine pure_ (i := 33) (N := some 129) (v := undef) (a' := ?_) #[true, true, true, true, true, true, true, true, true, true, true, true, true, true, true, true, true, true, true, true, true, true, true, true, true, true, true, true, true, true, true, true, true, true, false, false] rfl rfl (by kernel_rfl) (fun _ _ _ h => h) (Or.inr ⟨by rfl, rfl⟩) ?_ ?_
          rotate_left
          · simp only [Act.put, List.setIfInBounds_toArray, List.set_cons_zero, List.set_cons_succ, i64_w, i32_w]
            rfl
          refine pure_ (i := 34) (N := some 130) (v := ?_) (a' := ?_) #[true, true, true, true, true, true, true, true, true, true, true, true, true, true, true, true, true, true, true, true, true, true, true, true, true, true, true, true, true, true, true, true, true, true, true, false] rfl rfl (by kernel_rfl) (fun _ _ _ h => h) (Or.inl ⟨by rfl, ?_⟩) ?_ ?_
          rotate_left
          · intro w'
            go_simp
            with_reducible rfl
          rotate_left
          · simp only [Act.put, List.setIfInBounds_toArray, List.set_cons_zero, List.set_cons_succ, i64_w, i32_w]
            rfl
          refine pure_ (i := 35) (N := some 131) (v := ?_) (a' := ?_) #[true, true, true, true, true, true, true, true, true, true, true, true, true, true, true, true, true, true, true, true, true, true, true, true, true, true, true, true, true, true, true, true, true, true, true, true] rfl rfl (by kernel_rfl) (fun _ _ _ h => h) (Or.inl ⟨by rfl, ?_⟩) ?_ ?_
          rotate_left
          · intro w'
            go_simp
            with_reducible rfl
          rotate_left
          · simp only [Act.put, List.setIfInBounds_toArray, List.set_cons_zero, List.set_cons_succ, i64_w, i32_w]
            rfl
          refine done_ (by kernel_rfl) ?_
          have n_a : Hid (Var v9 okh okc (w.heap.size) #[.int .i64 a0, .int .i64 a1] 23) := Lib.hid (V_a.out.below Q_v9.out)
          have n_i : Hid (Var v9 okh okc (w.heap.size + 1) #[.int .i64 i0, .int .i64 i1] 23) := Lib.hid (V_i.out.below Q_v9.out)
          have n_b : Hid (Var v9 okh okc (w.heap.size + 1 + 1) #[.int .i64 b0, .int .i64 b1] 23) := Lib.hid (V_b.out.below Q_v9.out)
          have n_k : Hid (Var v9 okh okc (w.heap.size + 1 + 1 + 1) #[.int .i64 k0, .int .i64 k1] 23) := Lib.hid (V_k.out.below Q_v9.out)
          have n_was : Hid (Var v9 okh okc (w_1.heap.size) #[.int .i64 x0, .int .i64 x1] 23) := Lib.hid (V_was.out.below Q_v9.out)
          have n_oth : Hid (Var v9 okh okc (w_2.heap.size) #[.int .i64 y0, .int .i64 y1] 23) := Lib.hid (V_oth.out.below Q_v9.out)
          have n_x : Hid (Var v9 okh okc (w_23.heap.size) #[.int .i64 1, .int .i64 n] 23) := Lib.hid (V_x.out.below Q_v9.out)
          have n_y : Hid (Var v9 okh okc (w_24.heap.size) #[.int .i64 z0, .int .i64 z1] 23) := Lib.hid (V_y.out.below Q_v9.out)
          have n_st : Hid (Var v9 okh okc (w_25.heap.size) #[.int .i64 x0, .int .i64 x1] 23) := Lib.hid (V_st.out.below Q_v9.out)
          clear V_a lt_a c_a_0 f_a_0 c_a_1 f_a_1 V_i lt_i c_i_0 f_i_0 c_i_1 f_i_1 V_b lt_b c_b_0 f_b_0 c_b_1 f_b_1 V_k lt_k c_k_0 f_k_0 c_k_1 f_k_1 V_was lt_was c_was_0 f_was_0 c_was_1 f_was_1 V_oth lt_oth c_oth_0 f_oth_0 c_oth_1 f_oth_1 V_x lt_x c_x_0 f_x_0 c_x_1 f_x_1 V_y lt_y c_y_0 f_y_0 c_y_1 f_y_1 V_st lt_st c_st_0 f_st_0 c_st_1 f_st_1
          have V_a := n_a
          clear n_a
          have lt_a : w.heap.size < v9.heap.size := blk_lt V_a.out.blk
          have c_a_0 : v9.cell? ⟨w.heap.size, 0, none⟩ = some (.int .i64 a0) := (blk_cell V_a.out.blk 0).trans rfl
          have f_a_0 : v9.frozen? ⟨w.heap.size, 0, none⟩ = false := blk_frozen V_a.out.blk 0
          have c_a_1 : v9.cell? ⟨w.heap.size, 1, none⟩ = some (.int .i64 a1) := (blk_cell V_a.out.blk 1).trans rfl
          have f_a_1 : v9.frozen? ⟨w.heap.size, 1, none⟩ = false := blk_frozen V_a.out.blk 1
          have V_i := n_i
          clear n_i
          have lt_i : w.heap.size + 1 < v9.heap.size := blk_lt V_i.out.blk
          have c_i_0 : v9.cell? ⟨w.heap.size + 1, 0, none⟩ = some (.int .i64 i0) := (blk_cell V_i.out.blk 0).trans rfl
          have f_i_0 : v9.frozen? ⟨w.heap.size + 1, 0, none⟩ = false := blk_frozen V_i.out.blk 0
          have c_i_1 : v9.cell? ⟨w.heap.size + 1, 1, none⟩ = some (.int .i64 i1) := (blk_cell V_i.out.blk 1).trans rfl
          have f_i_1 : v9.frozen? ⟨w.heap.size + 1, 1, none⟩ = false := blk_frozen V_i.out.blk 1
          have V_b := n_b
          clear n_b
          have lt_b : w.heap.size + 1 + 1 < v9.heap.size := blk_lt V_b.out.blk
          have c_b_0 : v9.cell? ⟨w.heap.size + 1 + 1, 0, none⟩ = some (.int .i64 b0) := (blk_cell V_b.out.blk 0).trans rfl
          have f_b_0 : v9.frozen? ⟨w.heap.size + 1 + 1, 0, none⟩ = false := blk_frozen V_b.out.blk 0
          have c_b_1 : v9.cell? ⟨w.heap.size + 1 + 1, 1, none⟩ = some (.int .i64 b1) := (blk_cell V_b.out.blk 1).trans rfl
          have f_b_1 : v9.frozen? ⟨w.heap.size + 1 + 1, 1, none⟩ = false := blk_frozen V_b.out.blk 1
          have V_k := n_k
          clear n_k
          have lt_k : w.heap.size + 1 + 1 + 1 < v9.heap.size := blk_lt V_k.out.blk
          have c_k_0 : v9.cell? ⟨w.heap.size + 1 + 1 + 1, 0, none⟩ = some (.int .i64 k0) := (blk_cell V_k.out.blk 0).trans rfl
          have f_k_0 : v9.frozen? ⟨w.heap.size + 1 + 1 + 1, 0, none⟩ = false := blk_frozen V_k.out.blk 0
          have c_k_1 : v9.cell? ⟨w.heap.size + 1 + 1 + 1, 1, none⟩ = some (.int .i64 k1) := (blk_cell V_k.out.blk 1).trans rfl
          have f_k_1 : v9.frozen? ⟨w.heap.size + 1 + 1 + 1, 1, none⟩ = false := blk_frozen V_k.out.blk 1
          have V_was := n_was
          clear n_was
          have lt_was : w_1.heap.size < v9.heap.size := blk_lt V_was.out.blk
          have c_was_0 : v9.cell? ⟨w_1.heap.size, 0, none⟩ = some (.int .i64 x0) := (blk_cell V_was.out.blk 0).trans rfl
          have f_was_0 : v9.frozen? ⟨w_1.heap.size, 0, none⟩ = false := blk_frozen V_was.out.blk 0
          have c_was_1 : v9.cell? ⟨w_1.heap.size, 1, none⟩ = some (.int .i64 x1) := (blk_cell V_was.out.blk 1).trans rfl
          have f_was_1 : v9.frozen? ⟨w_1.heap.size, 1, none⟩ = false := blk_frozen V_was.out.blk 1
          have V_oth := n_oth
          clear n_oth
          have lt_oth : w_2.heap.size < v9.heap.size := blk_lt V_oth.out.blk
          have c_oth_0 : v9.cell? ⟨w_2.heap.size, 0, none⟩ = some (.int .i64 y0) := (blk_cell V_oth.out.blk 0).trans rfl
          have f_oth_0 : v9.frozen? ⟨w_2.heap.size, 0, none⟩ = false := blk_frozen V_oth.out.blk 0
          have c_oth_1 : v9.cell? ⟨w_2.heap.size, 1, none⟩ = some (.int .i64 y1) := (blk_cell V_oth.out.blk 1).trans rfl
          have f_oth_1 : v9.frozen? ⟨w_2.heap.size, 1, none⟩ = false := blk_frozen V_oth.out.blk 1
          have V_x := n_x
          clear n_x
          have lt_x : w_23.heap.size < v9.heap.size := blk_lt V_x.out.blk
          have c_x_0 : v9.cell? ⟨w_23.heap.size, 0, none⟩ = some (.int .i64 1) := (blk_cell V_x.out.blk 0).trans rfl
          have f_x_0 : v9.frozen? ⟨w_23.heap.size, 0, none⟩ = false := blk_frozen V_x.out.blk 0
          have c_x_1 : v9.cell? ⟨w_23.heap.size, 1, none⟩ = some (.int .i64 n) := (blk_cell V_x.out.blk 1).trans rfl
          have f_x_1 : v9.frozen? ⟨w_23.heap.size, 1, none⟩ = false := blk_frozen V_x.out.blk 1
          have V_y := n_y
          clear n_y
          have lt_y : w_24.heap.size < v9.heap.size := blk_lt V_y.out.blk
          have c_y_0 : v9.cell? ⟨w_24.heap.size, 0, none⟩ = some (.int .i64 z0) := (blk_cell V_y.out.blk 0).trans rfl
          have f_y_0 : v9.frozen? ⟨w_24.heap.size, 0, none⟩ = false := blk_frozen V_y.out.blk 0
          have c_y_1 : v9.cell? ⟨w_24.heap.size, 1, none⟩ = some (.int .i64 z1) := (blk_cell V_y.out.blk 1).trans rfl
          have f_y_1 : v9.frozen? ⟨w_24.heap.size, 1, none⟩ = false := blk_frozen V_y.out.blk 1
          have V_st := n_st
          clear n_st
          have lt_st : w_25.heap.size < v9.heap.size := blk_lt V_st.out.blk
          have c_st_0 : v9.cell? ⟨w_25.heap.size, 0, none⟩ = some (.int .i64 x0) := (blk_cell V_st.out.blk 0).trans rfl
          have f_st_0 : v9.frozen? ⟨w_25.heap.size, 0, none⟩ = false := blk_frozen V_st.out.blk 0
          have c_st_1 : v9.cell? ⟨w_25.heap.size, 1, none⟩ = some (.int .i64 x1) := (blk_cell V_st.out.blk 1).trans rfl
          have f_st_1 : v9.frozen? ⟨w_25.heap.size, 1, none⟩ = false := blk_frozen V_st.out.blk 1
          have nR := Lib.hid (R.out.below Q_v9.out)
          clear R
          have R := nR
          clear nR
          go_wp2_with fail
          go_meet
          exact ⟨rfl, Q_v9.out⟩
        · have e1 : (e == 0) = false := by simp [he]
          have e2 : (e != 0) = true := by simp [he]
          clear he h1_ h2_
          refine start_ (n := 36) (S := fun w' => w'.cell? ⟨w_25.heap.size, 0, none⟩ = some (.int .i64 x0) ∧ w'.cell? ⟨w_25.heap.size, 1, none⟩ = some (.int .i64 x1) ∧ w'.cell? ⟨w_1.heap.size, 0, none⟩ = some (.int .i64 x0) ∧ w'.cell? ⟨w_1.heap.size, 1, none⟩ = some (.int .i64 x1)) (ds := []) #[false, false, false, false, false, false, false, false, false, false, false, false, false, false, false, false, false, false, false, false, false, false, false, false, false, false, false, false, false, false, false, false, false, false, false, false] (by kernel_rfl) rfl rfl ⟨cell_drew c_st_0, cell_drew c_st_1, cell_drew c_was_0, cell_drew c_was_1⟩ (fun hHeld => ?_)
          refine pure_ (i := 0) (N := some 96) (v := ?_) (a' := ?_) #[true, false, false, false, false, false, false, false, false, false, false, false, false, false, false, false, false, false, false, false, false, false, false, false, false, false, false, false, false, false, false, false, false, false, false, false] rfl rfl (by kernel_rfl) (fun _ _ _ h => h) (Or.inl ⟨by rfl, ?_⟩) ?_ ?_
          rotate_left
          · intro w'
            go_simp
            with_reducible rfl
          rotate_left
          · simp only [Act.put, List.setIfInBounds_toArray, List.set_cons_zero, List.set_cons_succ, i64_w, i32_w]
            rfl
          refine pure_ (i := 1) (N := some 97) (v := ?_) (a' := ?_) #[true, true, false, false, false, false, false, false, false, false, false, false, false, false, false, false, false, false, false, false, false, false, false, false, false, false, false, false, false, false, false, false, false, false, false, false] rfl rfl (by kernel_rfl) (fun _ _ _ h => h) (Or.inl ⟨by rfl, ?_⟩) ?_ ?_
          rotate_left
          · intro w'
            go_simp
            with_reducible rfl
          rotate_left
          · simp only [Act.put, List.setIfInBounds_toArray, List.set_cons_zero, List.set_cons_succ, i64_w, i32_w]
            rfl
          refine pure_ (i := 2) (N := some 98) (v := ?_) (a' := ?_) #[true, true, true, false, false, false, false, false, false, false, false, false, false, false, false, false, false, false, false, false, false, false, false, false, false, false, false, false, false, false, false, false, false, false, false, false] rfl rfl (by kernel_rfl) (fun _ _ _ h => h) (Or.inl ⟨by rfl, ?_⟩) ?_ ?_
          rotate_left
          · intro w'
            go_simp
            with_reducible rfl
          rotate_left
          · simp only [Act.put, List.setIfInBounds_toArray, List.set_cons_zero, List.set_cons_succ, i64_w, i32_w]
            rfl
          refine pure_ (i := 3) (N := some 99) (v := ?_) (a' := ?_) #[true, true, true, true, false, false, false, false, false, false, false, false, false, false, false, false, false, false, false, false, false, false, false, false, false, false, false, false, false, false, false, false, false, false, false, false] rfl rfl (by kernel_rfl) (fun _ _ _ h => h) (Or.inl ⟨by rfl, ?_⟩) ?_ ?_
          rotate_left
          · intro w'
            go_simp
            with_reducible rfl
          rotate_left
          · simp only [Act.put, List.setIfInBounds_toArray, List.set_cons_zero, List.set_cons_succ, i64_w, i32_w]
            rfl
          refine take_ (i := 4) (N := some 100) (v := ?_) (a' := ?_) #[true, true, true, true, true, false, false, false, false, false, false, false, false, false, false, false, false, false, false, false, false, false, false, false, false, false, false, false, false, false, false, false, false, false, false, false] rfl rfl (by kernel_rfl) (fun _ _ _ h => h) (Or.inl ⟨by rfl, ?_⟩) hHeld ?_ ?_
          rotate_left
          · rintro w' ⟨s0, s1, s2, s3⟩
            go_simp
            with_reducible rfl
          rotate_left
          · simp only [Act.put, List.setIfInBounds_toArray, List.set_cons_zero, List.set_cons_succ, i64_w, i32_w]
            rfl
          refine take_ (i := 5) (N := some 101) (v := ?_) (a' := ?_) #[true, true, true, true, true, true, false, false, false, false, false, false, false, false, false, false, false, false, false, false, false, false, false, false, false, false, false, false, false, false, false, false, false, false, false, false] rfl rfl (by kernel_rfl) (fun _ _ _ h => h) (Or.inl ⟨by rfl, ?_⟩) hHeld ?_ ?_
          rotate_left
          · rintro w' ⟨s0, s1, s2, s3⟩
            go_simp
            with_reducible rfl
          rotate_left
          · simp only [Act.put, List.setIfInBounds_toArray, List.set_cons_zero, List.set_cons_succ, i64_w, i32_w]
            rfl
          refine pure_ (i := 6) (N := some 102) (v := ?_) (a' := ?_) #[true, true, true, true, true, true, true, false, false, false, false, false, false, false, false, false, false, false, false, false, false, false, false, false, false, false, false, false, false, false, false, false, false, false, false, false] rfl rfl (by kernel_rfl) (fun _ _ _ h => h) (Or.inl ⟨by rfl, ?_⟩) ?_ ?_
          rotate_left
          · intro w'
            go_simp
            with_reducible rfl
          rotate_left
          · simp only [Act.put, List.setIfInBounds_toArray, List.set_cons_zero, List.set_cons_succ, i64_w, i32_w]
            rfl
          refine pure_ (i := 7) (N := some 103) (v := ?_) (a' := ?_) #[true, true, true, true, true, true, true, true, false, false, false, false, false, false, false, false, false, false, false, false, false, false, false, false, false, false, false, false, false, false, false, false, false, false, false, false] rfl rfl (by kernel_rfl) (fun _ _ _ h => h) (Or.inl ⟨by rfl, ?_⟩) ?_ ?_
          rotate_left
          · intro w'
            go_simp
            with_reducible rfl
          rotate_left
          · simp only [Act.put, List.setIfInBounds_toArray, List.set_cons_zero, List.set_cons_succ, i64_w, i32_w]
            rfl
          refine pure_ (i := 8) (N := some 104) (v := ?_) (a' := ?_) #[true, true, true, true, true, true, true, true, true, false, false, false, false, false, false, false, false, false, false, false, false, false, false, false, false, false, false, false, false, false, false, false, false, false, false, false] rfl rfl (by kernel_rfl) (fun _ _ _ h => h) (Or.inl ⟨by rfl, ?_⟩) ?_ ?_
          rotate_left
          · intro w'
            go_simp
            with_reducible rfl
          rotate_left
          · simp only [Act.put, List.setIfInBounds_toArray, List.set_cons_zero, List.set_cons_succ, i64_w, i32_w]
            rfl
          refine pure_ (i := 9) (N := some 105) (v := ?_) (a' := ?_) #[true, true, true, true, true, true, true, true, true, true, false, false, false, false, false, false, false, false, false, false, false, false, false, false, false, false, false, false, false, false, false, false, false, false, false, false] rfl rfl (by kernel_rfl) (fun _ _ _ h => h) (Or.inl ⟨by rfl, ?_⟩) ?_ ?_
          rotate_left
          · intro w'
            go_simp
            with_reducible rfl
          rotate_left
          · simp only [Act.put, List.setIfInBounds_toArray, List.set_cons_zero, List.set_cons_succ, i64_w, i32_w]
            rfl
          refine pure_ (i := 10) (N := some 106) (v := ?_) (a' := ?_) #[true, true, true, true, true, true, true, true, true, true, true, false, false, false, false, false, false, false, false, false, false, false, false, false, false, false, false, false, false, false, false, false, false, false, false, false] rfl rfl (by kernel_rfl) (fun _ _ _ h => h) (Or.inl ⟨by rfl, ?_⟩) ?_ ?_
          rotate_left
          · intro w'
            go_simp
            with_reducible rfl
          rotate_left
          · simp only [Act.put, List.setIfInBounds_toArray, List.set_cons_zero, List.set_cons_succ, i64_w, i32_w]
            rfl
          refine pure_ (i := 11) (N := some 107) (v := ?_) (a' := ?_) #[true, true, true, true, true, true, true, true, true, true, true, true, false, false, false, false, false, false, false, false, false, false, false, false, false, false, false, false, false, false, false, false, false, false, false, false] rfl rfl (by kernel_rfl) (fun _ _ _ h => h) (Or.inl ⟨by rfl, ?_⟩) ?_ ?_
          rotate_left
          · intro w'
            go_simp
            with_reducible rfl
          rotate_left
          · simp only [Act.put, List.setIfInBounds_toArray, List.set_cons_zero, List.set_cons_succ, i64_w, i32_w]
            rfl
          refine pure_ (i := 12) (N := some 108) (v := ?_) (a' := ?_) #[true, true, true, true, true, true, true, true, true, true, true, true, true, false, false, false, false, false, false, false, false, false, false, false, false, false, false, false, false, false, false, false, false, false, false, false] rfl rfl (by kernel_rfl) (fun _ _ _ h => h) (Or.inl ⟨by rfl, ?_⟩) ?_ ?_
          rotate_left
          · intro w'
            go_simp
            with_reducible rfl
          rotate_left
          · simp only [Act.put, List.setIfInBounds_toArray, List.set_cons_zero, List.set_cons_succ, i64_w, i32_w]
            rfl
          refine pure_ (i := 13) (N := some 109) (v := ?_) (a' := ?_) #[true, true, true, true, true, true, true, true, true, true, true, true, true, true, false, false, false, false, false, false, false, false, false, false, false, false, false, false, false, false, false, false, false, false, false, false] rfl rfl (by kernel_rfl) (fun _ _ _ h => h) (Or.inl ⟨by rfl, ?_⟩) ?_ ?_
          rotate_left
          · intro w'
            go_simp
            with_reducible rfl
          rotate_left
          · simp only [Act.put, List.setIfInBounds_toArray, List.set_cons_zero, List.set_cons_succ, i64_w, i32_w]
            rfl
          refine pure_ (i := 14) (N := some 110) (v := ?_) (a' := ?_) #[true, true, true, true, true, true, true, true, true, true, true, true, true, true, true, false, false, false, false, false, false, false, false, false, false, false, false, false, false, false, false, false, false, false, false, false] rfl rfl (by kernel_rfl) (fun _ _ _ h => h) (Or.inl ⟨by rfl, ?_⟩) ?_ ?_
          rotate_left
          · intro w'
            go_simp
            with_reducible rfl
          rotate_left
          · simp only [Act.put, List.setIfInBounds_toArray, List.set_cons_zero, List.set_cons_succ, i64_w, i32_w]
            rfl
          refine pure_ (i := 15) (N := some 111) (v := ?_) (a' := ?_) #[true, true, true, true, true, true, true, true, true, true, true, true, true, true, true, true, false, false, false, false, false, false, false, false, false, false, false, false, false, false, false, false, false, false, false, false] rfl rfl (by kernel_rfl) (fun _ _ _ h => h) (Or.inl ⟨by rfl, ?_⟩) ?_ ?_
          rotate_left
          · intro w'
            go_simp
            with_reducible rfl
          rotate_left
          · simp only [Act.put, List.setIfInBounds_toArray, List.set_cons_zero, List.set_cons_succ, i64_w, i32_w]
            rfl
          refine pure_ (i := 16) (N := some 112) (v := ?_) (a' := ?_) #[true, true, true, true, true, true, true, true, true, true, true, true, true, true, true, true, true, false, false, false, false, false, false, false, false, false, false, false, false, false, false, false, false, false, false, false] rfl rfl (by kernel_rfl) (fun _ _ _ h => h) (Or.inl ⟨by rfl, ?_⟩) ?_ ?_
          rotate_left
          · intro w'
            go_simp
            with_reducible rfl
          rotate_left
          · simp only [Act.put, List.setIfInBounds_toArray, List.set_cons_zero, List.set_cons_succ, i64_w, i32_w]
            rfl
          refine pure_ (i := 17) (N := some 113) (v := undef) (a' := ?_) #[true, true, true, true, true, true, true, true, true, true, true, true, true, true, true, true, true, true, false, false, false, false, false, false, false, false, false, false, false, false, false, false, false, false, false, false] rfl rfl (by kernel_rfl) (fun _ _ _ h => h) (Or.inr ⟨by rfl, rfl⟩) ?_ ?_
          rotate_left
          · simp only [Act.put, List.setIfInBounds_toArray, List.set_cons_zero, List.set_cons_succ, i64_w, i32_w]
            rfl
          refine pure_ (i := 18) (N := some 114) (v := undef) (a' := ?_) #[true, true, true, true, true, true, true, true, true, true, true, true, true, true, true, true, true, true, true, false, false, false, false, false, false, false, false, false, false, false, false, false, false, false, false, false] rfl rfl (by kernel_rfl) (fun _ _ _ h => h) (Or.inr ⟨by rfl, rfl⟩) ?_ ?_
          rotate_left
          · simp only [Act.put, List.setIfInBounds_toArray, List.set_cons_zero, List.set_cons_succ, i64_w, i32_w]
            rfl
          refine pure_ (i := 19) (N := some 115) (v := undef) (a' := ?_) #[true, true, true, true, true, true, true, true, true, true, true, true, true, true, true, true, true, true, true, true, false, false, false, false, false, false, false, false, false, false, false, false, false, false, false, false] rfl rfl (by kernel_rfl) (fun _ _ _ h => h) (Or.inr ⟨by rfl, rfl⟩) ?_ ?_
          rotate_left
          · simp only [Act.put, List.setIfInBounds_toArray, List.set_cons_zero, List.set_cons_succ, i64_w, i32_w]
            rfl
          refine pure_ (i := 20) (N := some 116) (v := undef) (a' := ?_) #[true, true, true, true, true, true, true, true, true, true, true, true, true, true, true, true, true, true, true, true, true, false, false, false, false, false, false, false, false, false, false, false, false, false, false, false] rfl rfl (by kernel_rfl) (fun _ _ _ h => h) (Or.inr ⟨by rfl, rfl⟩) ?_ ?_
          rotate_left
          · simp only [Act.put, List.setIfInBounds_toArray, List.set_cons_zero, List.set_cons_succ, i64_w, i32_w]
            rfl
          refine pure_ (i := 21) (N := some 117) (v := undef) (a' := ?_) #[true, true, true, true, true, true, true, true, true, true, true, true, true, true, true, true, true, true, true, true, true, true, false, false, false, false, false, false, false, false, false, false, false, false, false, false] rfl rfl (by kernel_rfl) (fun _ _ _ h => h) (Or.inr ⟨by rfl, rfl⟩) ?_ ?_
          rotate_left
          · simp only [Act.put, List.setIfInBounds_toArray, List.set_cons_zero, List.set_cons_succ, i64_w, i32_w]
            rfl
          refine pure_ (i := 22) (N := some 118) (v := undef) (a' := ?_) #[true, true, true, true, true, true, true, true, true, true, true, true, true, true, true, true, true, true, true, true, true, true, true, false, false, false, false, false, false, false, false, false, false, false, false, false] rfl rfl (by kernel_rfl) (fun _ _ _ h => h) (Or.inr ⟨by rfl, rfl⟩) ?_ ?_
          rotate_left
          · simp only [Act.put, List.setIfInBounds_toArray, List.set_cons_zero, List.set_cons_succ, i64_w, i32_w]
            rfl
          refine pure_ (i := 23) (N := some 119) (v := undef) (a' := ?_) #[true, true, true, true, true, true, true, true, true, true, true, true, true, true, true, true, true, true, true, true, true, true, true, true, false, false, false, false, false, false, false, false, false, false, false, false] rfl rfl (by kernel_rfl) (fun _ _ _ h => h) (Or.inr ⟨by rfl, rfl⟩) ?_ ?_
          rotate_left
          · simp only [Act.put, List.setIfInBounds_toArray, List.set_cons_zero, List.set_cons_succ, i64_w, i32_w]
            rfl
          refine pure_ (i := 24) (N := some 120) (v := undef) (a' := ?_) #[true, true, true, true, true, true, true, true, true, true, true, true, true, true, true, true, true, true, true, true, true, true, true, true, true, false, false, false, false, false, false, false, false, false, false, false] rfl rfl (by kernel_rfl) (fun _ _ _ h => h) (Or.inr ⟨by rfl, rfl⟩) ?_ ?_
          rotate_left
          · simp only [Act.put, List.setIfInBounds_toArray, List.set_cons_zero, List.set_cons_succ, i64_w, i32_w]
            rfl
          refine pure_ (i := 25) (N := some 121) (v := ?_) (a' := ?_) #[true, true, true, true, true, true, true, true, true, true, true, true, true, true, true, true, true, true, true, true, true, true, true, true, true, true, false, false, false, false, false, false, false, false, false, false] rfl rfl (by kernel_rfl) (fun _ _ _ h => h) (Or.inl ⟨by rfl, ?_⟩) ?_ ?_
          rotate_left
          · intro w'
            go_simp
            with_reducible rfl
          rotate_left
          · simp only [Act.put, List.setIfInBounds_toArray, List.set_cons_zero, List.set_cons_succ, i64_w, i32_w]
            rfl
          refine pure_ (i := 26) (N := some 122) (v := ?_) (a' := ?_) #[true, true, true, true, true, true, true, true, true, true, true, true, true, true, true, true, true, true, true, true, true, true, true, true, true, true, true, false, false, false, false, false, false, false, false, false] rfl rfl (by kernel_rfl) (fun _ _ _ h => h) (Or.inl ⟨by rfl, ?_⟩) ?_ ?_
          rotate_left
          · intro w'
            go_simp
            with_reducible rfl
          rotate_left
          · simp only [Act.put, List.setIfInBounds_toArray, List.set_cons_zero, List.set_cons_succ, i64_w, i32_w]
            rfl
          refine pure_ (i := 27) (N := some 123) (v := ?_) (a' := ?_) #[true, true, true, true, true, true, true, true, true, true, true, true, true, true, true, true, true, true, true, true, true, true, true, true, true, true, true, true, false, false, false, false, false, false, false, false] rfl rfl (by kernel_rfl) (fun _ _ _ h => h) (Or.inl ⟨by rfl, ?_⟩) ?_ ?_
          rotate_left
          · intro w'
            go_simp
            with_reducible rfl
          rotate_left
          · simp only [Act.put, List.setIfInBounds_toArray, List.set_cons_zero, List.set_cons_succ, i64_w, i32_w]
            rfl
          refine pure_ (i := 28) (N := some 124) (v := ?_) (a' := ?_) #[true, true, true, true, true, true, true, true, true, true, true, true, true, true, true, true, true, true, true, true, true, true, true, true, true, true, true, true, true, false, false, false, false, false, false, false] rfl rfl (by kernel_rfl) (fun _ _ _ h => h) (Or.inl ⟨by rfl, ?_⟩) ?_ ?_
          rotate_left
          · intro w'
            go_simp
            with_reducible rfl
          rotate_left
          · simp only [Act.put, List.setIfInBounds_toArray, List.set_cons_zero, List.set_cons_succ, i64_w, i32_w]
            rfl
          refine pure_ (i := 29) (N := some 125) (v := ?_) (a' := ?_) #[true, true, true, true, true, true, true, true, true, true, true, true, true, true, true, true, true, true, true, true, true, true, true, true, true, true, true, true, true, true, false, false, false, false, false, false] rfl rfl (by kernel_rfl) (fun _ _ _ h => h) (Or.inl ⟨by rfl, ?_⟩) ?_ ?_
          rotate_left
          · intro w'
            go_simp
            with_reducible rfl
          rotate_left
          · simp only [Act.put, List.setIfInBounds_toArray, List.set_cons_zero, List.set_cons_succ, i64_w, i32_w]
            rfl
          refine pure_ (i := 30) (N := some 126) (v := ?_) (a' := ?_) #[true, true, true, true, true, true, true, true, true, true, true, true, true, true, true, true, true, true, true, true, true, true, true, true, true, true, true, true, true, true, true, false, false, false, false, false] rfl rfl (by kernel_rfl) (fun _ _ _ h => h) (Or.inl ⟨by rfl, ?_⟩) ?_ ?_
          rotate_left
          · intro w'
            go_simp
            with_reducible rfl
          rotate_left
          · simp only [Act.put, List.setIfInBounds_toArray, List.set_cons_zero, List.set_cons_succ, i64_w, i32_w]
            rfl
          refine pure_ (i := 31) (N := some 127) (v := ?_) (a' := ?_) #[true, true, true, true, true, true, true, true, true, true, true, true, true, true, true, true, true, true, true, true, true, true, true, true, true, true, true, true, true, true, true, true, false, false, false, false] rfl rfl (by kernel_rfl) (fun _ _ _ h => h) (Or.inl ⟨by rfl, ?_⟩) ?_ ?_
          rotate_left
          · intro w'
            go_simp
            with_reducible rfl
          rotate_left
          · simp only [Act.put, List.setIfInBounds_toArray, List.set_cons_zero, List.set_cons_succ, i64_w, i32_w]
            rfl
          refine pure_ (i := 32) (N := some 128) (v := ?_) (a' := ?_) #[true, true, true, true, true, true, true, true, true, true, true, true, true, true, true, true, true, true, true, true, true, true, true, true, true, true, true, true, true, true, true, true, true, false, false, false] rfl rfl (by kernel_rfl) (fun _ _ _ h => h) (Or.inl ⟨by rfl, ?_⟩) ?_ ?_
          rotate_left
          · intro w'
            go_simp
            with_reducible rfl
          rotate_left
          · simp only [Act.put, List.setIfInBounds_toArray, List.set_cons_zero, List.set_cons_succ, i64_w, i32_w]
            rfl
          refine pure_ (i := 33) (N := some 129) (v := ?_) (a' := ?_) #[true, true, true, true, true, true, true, true, true, true, true, true, true, true, true, true, true, true, true, true, true, true, true, true, true, true, true, true, true, true, true, true, true, true, false, false] rfl rfl (by kernel_rfl) (fun _ _ _ h => h) (Or.inl ⟨by rfl, ?_⟩) ?_ ?_
          rotate_left
          · intro w'
            go_simp
            with_reducible rfl
          rotate_left
          · simp only [Act.put, List.setIfInBounds_toArray, List.set_cons_zero, List.set_cons_succ, i64_w, i32_w]
            rfl
          refine pure_ (i := 34) (N := some 130) (v := ?_) (a' := ?_) #[true, true, true, true, true, true, true, true, true, true, true, true, true, true, true, true, true, true, true, true, true, true, true, true, true, true, true, true, true, true, true, true, true, true, true, false] rfl rfl (by kernel_rfl) (fun _ _ _ h => h) (Or.inl ⟨by rfl, ?_⟩) ?_ ?_
          rotate_left
          · intro w'
            go_simp
            with_reducible rfl
          rotate_left
          · simp only [Act.put, List.setIfInBounds_toArray, List.set_cons_zero, List.set_cons_succ, i64_w, i32_w]
            rfl
          refine pure_ (i := 35) (N := some 131) (v := ?_) (a' := ?_) #[true, true, true, true, true, true, true, true, true, true, true, true, true, true, true, true, true, true, true, true, true, true, true, true, true, true, true, true, true, true, true, true, true, true, true, true] rfl rfl (by kernel_rfl) (fun _ _ _ h => h) (Or.inl ⟨by rfl, ?_⟩) ?_ ?_
          rotate_left
          · intro w'
            go_simp
            with_reducible rfl
          rotate_left
          · simp only [Act.put, List.setIfInBounds_toArray, List.set_cons_zero, List.set_cons_succ, i64_w, i32_w]
            rfl
          refine done_ (by kernel_rfl) ?_
          go_wp2_with fail
          go_meet
          exact ⟨rfl, below_drew (Below.refl _ _)⟩
      case rest =>
        obtain ⟨rfl, hb_⟩ := hcut
        have n_a : Hid (Var wc okh okc (w.heap.size) #[.int .i64 a0, .int .i64 a1] 23) := Lib.hid (V_a.out.below hb_)
        have n_i : Hid (Var wc okh okc (w.heap.size + 1) #[.int .i64 i0, .int .i64 i1] 23) := Lib.hid (V_i.out.below hb_)
        have n_b : Hid (Var wc okh okc (w.heap.size + 1 + 1) #[.int .i64 b0, .int .i64 b1] 23) := Lib.hid (V_b.out.below hb_)
        have n_k : Hid (Var wc okh okc (w.heap.size + 1 + 1 + 1) #[.int .i64 k0, .int .i64 k1] 23) := Lib.hid (V_k.out.below hb_)
        have n_was : Hid (Var wc okh okc (w_1.heap.size) #[.int .i64 x0, .int .i64 x1] 23) := Lib.hid (V_was.out.below hb_)
        have n_oth : Hid (Var wc okh okc (w_2.heap.size) #[.int .i64 y0, .int .i64 y1] 23) := Lib.hid (V_oth.out.below hb_)
        have n_x : Hid (Var wc okh okc (w_23.heap.size) #[.int .i64 X0, .int .i64 X1] 23) := Lib.hid (V_x.out.below hb_)
        have n_y : Hid (Var wc okh okc (w_24.heap.size) #[.int .i64 z0, .int .i64 z1] 23) := Lib.hid (V_y.out.below hb_)
        have n_st : Hid (Var wc okh okc (w_25.heap.size) #[.int .i64 x0, .int .i64 x1] 23) := Lib.hid (V_st.out.below hb_)
        clear V_a lt_a c_a_0 f_a_0 c_a_1 f_a_1 V_i lt_i c_i_0 f_i_0 c_i_1 f_i_1 V_b lt_b c_b_0 f_b_0 c_b_1 f_b_1 V_k lt_k c_k_0 f_k_0 c_k_1 f_k_1 V_was lt_was c_was_0 f_was_0 c_was_1 f_was_1 V_oth lt_oth c_oth_0 f_oth_0 c_oth_1 f_oth_1 V_x lt_x c_x_0 f_x_0 c_x_1 f_x_1 V_y lt_y c_y_0 f_y_0 c_y_1 f_y_1 V_st lt_st c_st_0 f_st_0 c_st_1 f_st_1
        have V_a := n_a
        clear n_a
        have lt_a : w.heap.size < wc.heap.size := blk_lt V_a.out.blk
        have c_a_0 : wc.cell? ⟨w.heap.size, 0, none⟩ = some (.int .i64 a0) := (blk_cell V_a.out.blk 0).trans rfl
        have f_a_0 : wc.frozen? ⟨w.heap.size, 0, none⟩ = false := blk_frozen V_a.out.blk 0
        have c_a_1 : wc.cell? ⟨w.heap.size, 1, none⟩ = some (.int .i64 a1) := (blk_cell V_a.out.blk 1).trans rfl
        have f_a_1 : wc.frozen? ⟨w.heap.size, 1, none⟩ = false := blk_frozen V_a.out.blk 1
        have V_i := n_i
        clear n_i
        have lt_i : w.heap.size + 1 < wc.heap.size := blk_lt V_i.out.blk
        have c_i_0 : wc.cell? ⟨w.heap.size + 1, 0, none⟩ = some (.int .i64 i0) := (blk_cell V_i.out.blk 0).trans rfl
        have f_i_0 : wc.frozen? ⟨w.heap.size + 1, 0, none⟩ = false := blk_frozen V_i.out.blk 0
        have c_i_1 : wc.cell? ⟨w.heap.size + 1, 1, none⟩ = some (.int .i64 i1) := (blk_cell V_i.out.blk 1).trans rfl
        have f_i_1 : wc.frozen? ⟨w.heap.size + 1, 1, none⟩ = false := blk_frozen V_i.out.blk 1
        have V_b := n_b
        clear n_b
        have lt_b : w.heap.size + 1 + 1 < wc.heap.size := blk_lt V_b.out.blk
        have c_b_0 : wc.cell? ⟨w.heap.size + 1 + 1, 0, none⟩ = some (.int .i64 b0) := (blk_cell V_b.out.blk 0).trans rfl
        have f_b_0 : wc.frozen? ⟨w.heap.size + 1 + 1, 0, none⟩ = false := blk_frozen V_b.out.blk 0
        have c_b_1 : wc.cell? ⟨w.heap.size + 1 + 1, 1, none⟩ = some (.int .i64 b1) := (blk_cell V_b.out.blk 1).trans rfl
        have f_b_1 : wc.frozen? ⟨w.heap.size + 1 + 1, 1, none⟩ = false := blk_frozen V_b.out.blk 1
        have V_k := n_k
        clear n_k
        have lt_k : w.heap.size + 1 + 1 + 1 < wc.heap.size := blk_lt V_k.out.blk
        have c_k_0 : wc.cell? ⟨w.heap.size + 1 + 1 + 1, 0, none⟩ = some (.int .i64 k0) := (blk_cell V_k.out.blk 0).trans rfl
        have f_k_0 : wc.frozen? ⟨w.heap.size + 1 + 1 + 1, 0, none⟩ = false := blk_frozen V_k.out.blk 0
        have c_k_1 : wc.cell? ⟨w.heap.size + 1 + 1 + 1, 1, none⟩ = some (.int .i64 k1) := (blk_cell V_k.out.blk 1).trans rfl
        have f_k_1 : wc.frozen? ⟨w.heap.size + 1 + 1 + 1, 1, none⟩ = false := blk_frozen V_k.out.blk 1
        have V_was := n_was
        clear n_was
        have lt_was : w_1.heap.size < wc.heap.size := blk_lt V_was.out.blk
        have c_was_0 : wc.cell? ⟨w_1.heap.size, 0, none⟩ = some (.int .i64 x0) := (blk_cell V_was.out.blk 0).trans rfl
        have f_was_0 : wc.frozen? ⟨w_1.heap.size, 0, none⟩ = false := blk_frozen V_was.out.blk 0
        have c_was_1 : wc.cell? ⟨w_1.heap.size, 1, none⟩ = some (.int .i64 x1) := (blk_cell V_was.out.blk 1).trans rfl
        have f_was_1 : wc.frozen? ⟨w_1.heap.size, 1, none⟩ = false := blk_frozen V_was.out.blk 1
        have V_oth := n_oth
        clear n_oth
        have lt_oth : w_2.heap.size < wc.heap.size := blk_lt V_oth.out.blk
        have c_oth_0 : wc.cell? ⟨w_2.heap.size, 0, none⟩ = some (.int .i64 y0) := (blk_cell V_oth.out.blk 0).trans rfl
        have f_oth_0 : wc.frozen? ⟨w_2.heap.size, 0, none⟩ = false := blk_frozen V_oth.out.blk 0
        have c_oth_1 : wc.cell? ⟨w_2.heap.size, 1, none⟩ = some (.int .i64 y1) := (blk_cell V_oth.out.blk 1).trans rfl
        have f_oth_1 : wc.frozen? ⟨w_2.heap.size, 1, none⟩ = false := blk_frozen V_oth.out.blk 1
        have V_x := n_x
        clear n_x
        have lt_x : w_23.heap.size < wc.heap.size := blk_lt V_x.out.blk
        have c_x_0 : wc.cell? ⟨w_23.heap.size, 0, none⟩ = some (.int .i64 X0) := (blk_cell V_x.out.blk 0).trans rfl
        have f_x_0 : wc.frozen? ⟨w_23.heap.size, 0, none⟩ = false := blk_frozen V_x.out.blk 0
        have c_x_1 : wc.cell? ⟨w_23.heap.size, 1, none⟩ = some (.int .i64 X1) := (blk_cell V_x.out.blk 1).trans rfl
        have f_x_1 : wc.frozen? ⟨w_23.heap.size, 1, none⟩ = false := blk_frozen V_x.out.blk 1
        have V_y := n_y
        clear n_y
        have lt_y : w_24.heap.size < wc.heap.size := blk_lt V_y.out.blk
        have c_y_0 : wc.cell? ⟨w_24.heap.size, 0, none⟩ = some (.int .i64 z0) := (blk_cell V_y.out.blk 0).trans rfl
        have f_y_0 : wc.frozen? ⟨w_24.heap.size, 0, none⟩ = false := blk_frozen V_y.out.blk 0
        have c_y_1 : wc.cell? ⟨w_24.heap.size, 1, none⟩ = some (.int .i64 z1) := (blk_cell V_y.out.blk 1).trans rfl
        have f_y_1 : wc.frozen? ⟨w_24.heap.size, 1, none⟩ = false := blk_frozen V_y.out.blk 1
        have V_st := n_st
        clear n_st
        have lt_st : w_25.heap.size < wc.heap.size := blk_lt V_st.out.blk
        have c_st_0 : wc.cell? ⟨w_25.heap.size, 0, none⟩ = some (.int .i64 x0) := (blk_cell V_st.out.blk 0).trans rfl
        have f_st_0 : wc.frozen? ⟨w_25.heap.size, 0, none⟩ = false := blk_frozen V_st.out.blk 0
        have c_st_1 : wc.cell? ⟨w_25.heap.size, 1, none⟩ = some (.int .i64 x1) := (blk_cell V_st.out.blk 1).trans rfl
        have f_st_1 : wc.frozen? ⟨w_25.heap.size, 1, none⟩ = false := blk_frozen V_st.out.blk 1
        have nR := Lib.hid (R.out.below hb_)
        clear R
        have R := nR
        clear nR
        clear hb_
        clear V_st lt_st c_st_0 f_st_0 c_st_1 f_st_1
        clear V_was lt_was c_was_0 f_was_0 c_was_1 f_was_1
        clear V_x lt_x c_x_0 f_x_0 c_x_1 f_x_1
        by_cases h_a0 : a0 = b0
        · by_cases h_a1 : a1 = b1
          · by_cases h_i0 : i0 = k0
            · by_cases h_i1 : i1 = k1
              · skip
                have b_a0 : (a0 == b0) = true := by simp [h_a0]
                have b_a1 : (a1 == b1) = true := by simp [h_a1]
                have b_i0 : (i0 == k0) = true := by simp [h_i0]
                have b_i1 : (i1 == k1) = true := by simp [h_i1]
                clear h_a0 h_a1 h_i0 h_i1
                go_wp2_with fail
                refine (h1_cells R.out.c HC1.out).mono ?_
                rintro e_ w_26 ⟨rfl, hb_⟩
                have n_a : Hid (Var w_26 okh okc (w.heap.size) #[.int .i64 a0, .int .i64 a1] 23) := Lib.hid (V_a.out.below hb_)
                have n_i : Hid (Var w_26 okh okc (w.heap.size + 1) #[.int .i64 i0, .int .i64 i1] 23) := Lib.hid (V_i.out.below hb_)
                have n_b : Hid (Var w_26 okh okc (w.heap.size + 1 + 1) #[.int .i64 b0, .int .i64 b1] 23) := Lib.hid (V_b.out.below hb_)
                have n_k : Hid (Var w_26 okh okc (w.heap.size + 1 + 1 + 1) #[.int .i64 k0, .int .i64 k1] 23) := Lib.hid (V_k.out.below hb_)
                have n_oth : Hid (Var w_26 okh okc (w_2.heap.size) #[.int .i64 y0, .int .i64 y1] 23) := Lib.hid (V_oth.out.below hb_)
                have n_y : Hid (Var w_26 okh okc (w_24.heap.size) #[.int .i64 z0, .int .i64 z1] 23) := Lib.hid (V_y.out.below hb_)
                clear V_a lt_a c_a_0 f_a_0 c_a_1 f_a_1 V_i lt_i c_i_0 f_i_0 c_i_1 f_i_1 V_b lt_b c_b_0 f_b_0 c_b_1 f_b_1 V_k lt_k c_k_0 f_k_0 c_k_1 f_k_1 V_oth lt_oth c_oth_0 f_oth_0 c_oth_1 f_oth_1 V_y lt_y c_y_0 f_y_0 c_y_1 f_y_1
                have V_a := n_a
                clear n_a
                have lt_a : w.heap.size < w_26.heap.size := blk_lt V_a.out.blk
                have c_a_0 : w_26.cell? ⟨w.heap.size, 0, none⟩ = some (.int .i64 a0) := (blk_cell V_a.out.blk 0).trans rfl
                have f_a_0 : w_26.frozen? ⟨w.heap.size, 0, none⟩ = false := blk_frozen V_a.out.blk 0
                have c_a_1 : w_26.cell? ⟨w.heap.size, 1, none⟩ = some (.int .i64 a1) := (blk_cell V_a.out.blk 1).trans rfl
                have f_a_1 : w_26.frozen? ⟨w.heap.size, 1, none⟩ = false := blk_frozen V_a.out.blk 1
                have V_i := n_i
                clear n_i
                have lt_i : w.heap.size + 1 < w_26.heap.size := blk_lt V_i.out.blk
                have c_i_0 : w_26.cell? ⟨w.heap.size + 1, 0, none⟩ = some (.int .i64 i0) := (blk_cell V_i.out.blk 0).trans rfl
                have f_i_0 : w_26.frozen? ⟨w.heap.size + 1, 0, none⟩ = false := blk_frozen V_i.out.blk 0
                have c_i_1 : w_26.cell? ⟨w.heap.size + 1, 1, none⟩ = some (.int .i64 i1) := (blk_cell V_i.out.blk 1).trans rfl
                have f_i_1 : w_26.frozen? ⟨w.heap.size + 1, 1, none⟩ = false := blk_frozen V_i.out.blk 1
                have V_b := n_b
                clear n_b
                have lt_b : w.heap.size + 1 + 1 < w_26.heap.size := blk_lt V_b.out.blk
                have c_b_0 : w_26.cell? ⟨w.heap.size + 1 + 1, 0, none⟩ = some (.int .i64 b0) := (blk_cell V_b.out.blk 0).trans rfl
                have f_b_0 : w_26.frozen? ⟨w.heap.size + 1 + 1, 0, none⟩ = false := blk_frozen V_b.out.blk 0
                have c_b_1 : w_26.cell? ⟨w.heap.size + 1 + 1, 1, none⟩ = some (.int .i64 b1) := (blk_cell V_b.out.blk 1).trans rfl
                have f_b_1 : w_26.frozen? ⟨w.heap.size + 1 + 1, 1, none⟩ = false := blk_frozen V_b.out.blk 1
                have V_k := n_k
                clear n_k
                have lt_k : w.heap.size + 1 + 1 + 1 < w_26.heap.size := blk_lt V_k.out.blk
                have c_k_0 : w_26.cell? ⟨w.heap.size + 1 + 1 + 1, 0, none⟩ = some (.int .i64 k0) := (blk_cell V_k.out.blk 0).trans rfl
                have f_k_0 : w_26.frozen? ⟨w.heap.size + 1 + 1 + 1, 0, none⟩ = false := blk_frozen V_k.out.blk 0
                have c_k_1 : w_26.cell? ⟨w.heap.size + 1 + 1 + 1, 1, none⟩ = some (.int .i64 k1) := (blk_cell V_k.out.blk 1).trans rfl
                have f_k_1 : w_26.frozen? ⟨w.heap.size + 1 + 1 + 1, 1, none⟩ = false := blk_frozen V_k.out.blk 1
                have V_oth := n_oth
                clear n_oth
                have lt_oth : w_2.heap.size < w_26.heap.size := blk_lt V_oth.out.blk
                have c_oth_0 : w_26.cell? ⟨w_2.heap.size, 0, none⟩ = some (.int .i64 y0) := (blk_cell V_oth.out.blk 0).trans rfl
                have f_oth_0 : w_26.frozen? ⟨w_2.heap.size, 0, none⟩ = false := blk_frozen V_oth.out.blk 0
                have c_oth_1 : w_26.cell? ⟨w_2.heap.size, 1, none⟩ = some (.int .i64 y1) := (blk_cell V_oth.out.blk 1).trans rfl
                have f_oth_1 : w_26.frozen? ⟨w_2.heap.size, 1, none⟩ = false := blk_frozen V_oth.out.blk 1
                have V_y := n_y
                clear n_y
                have lt_y : w_24.heap.size < w_26.heap.size := blk_lt V_y.out.blk
                have c_y_0 : w_26.cell? ⟨w_24.heap.size, 0, none⟩ = some (.int .i64 z0) := (blk_cell V_y.out.blk 0).trans rfl
                have f_y_0 : w_26.frozen? ⟨w_24.heap.size, 0, none⟩ = false := blk_frozen V_y.out.blk 0
                have c_y_1 : w_26.cell? ⟨w_24.heap.size, 1, none⟩ = some (.int .i64 z1) := (blk_cell V_y.out.blk 1).trans rfl
                have f_y_1 : w_26.frozen? ⟨w_24.heap.size, 1, none⟩ = false := blk_frozen V_y.out.blk 1
                have nR := Lib.hid (R.out.below hb_)
                clear R
                have R := nR
                clear nR
                clear hb_
                go_wp2_with fail
                refine (h1_cells R.out.h HC2.out).mono ?_
                rintro e_ w_27 ⟨rfl, hb_⟩
                have n_a : Hid (Var w_27 okh okc (w.heap.size) #[.int .i64 a0, .int .i64 a1] 23) := Lib.hid (V_a.out.below hb_)
                have n_i : Hid (Var w_27 okh okc (w.heap.size + 1) #[.int .i64 i0, .int .i64 i1] 23) := Lib.hid (V_i.out.below hb_)
                have n_b : Hid (Var w_27 okh okc (w.heap.size + 1 + 1) #[.int .i64 b0, .int .i64 b1] 23) := Lib.hid (V_b.out.below hb_)
                have n_k : Hid (Var w_27 okh okc (w.heap.size + 1 + 1 + 1) #[.int .i64 k0, .int .i64 k1] 23) := Lib.hid (V_k.out.below hb_)
                have n_oth : Hid (Var w_27 okh okc (w_2.heap.size) #[.int .i64 y0, .int .i64 y1] 23) := Lib.hid (V_oth.out.below hb_)
                have n_y : Hid (Var w_27 okh okc (w_24.heap.size) #[.int .i64 z0, .int .i64 z1] 23) := Lib.hid (V_y.out.below hb_)
                clear V_a lt_a c_a_0 f_a_0 c_a_1 f_a_1 V_i lt_i c_i_0 f_i_0 c_i_1 f_i_1 V_b lt_b c_b_0 f_b_0 c_b_1 f_b_1 V_k lt_k c_k_0 f_k_0 c_k_1 f_k_1 V_oth lt_oth c_oth_0 f_oth_0 c_oth_1 f_oth_1 V_y lt_y c_y_0 f_y_0 c_y_1 f_y_1
                have V_a := n_a
                clear n_a
                have lt_a : w.heap.size < w_27.heap.size := blk_lt V_a.out.blk
                have c_a_0 : w_27.cell? ⟨w.heap.size, 0, none⟩ = some (.int .i64 a0) := (blk_cell V_a.out.blk 0).trans rfl
                have f_a_0 : w_27.frozen? ⟨w.heap.size, 0, none⟩ = false := blk_frozen V_a.out.blk 0
                have c_a_1 : w_27.cell? ⟨w.heap.size, 1, none⟩ = some (.int .i64 a1) := (blk_cell V_a.out.blk 1).trans rfl
                have f_a_1 : w_27.frozen? ⟨w.heap.size, 1, none⟩ = false := blk_frozen V_a.out.blk 1
                have V_i := n_i
                clear n_i
                have lt_i : w.heap.size + 1 < w_27.heap.size := blk_lt V_i.out.blk
                have c_i_0 : w_27.cell? ⟨w.heap.size + 1, 0, none⟩ = some (.int .i64 i0) := (blk_cell V_i.out.blk 0).trans rfl
                have f_i_0 : w_27.frozen? ⟨w.heap.size + 1, 0, none⟩ = false := blk_frozen V_i.out.blk 0
                have c_i_1 : w_27.cell? ⟨w.heap.size + 1, 1, none⟩ = some (.int .i64 i1) := (blk_cell V_i.out.blk 1).trans rfl
                have f_i_1 : w_27.frozen? ⟨w.heap.size + 1, 1, none⟩ = false := blk_frozen V_i.out.blk 1
                have V_b := n_b
                clear n_b
                have lt_b : w.heap.size + 1 + 1 < w_27.heap.size := blk_lt V_b.out.blk
                have c_b_0 : w_27.cell? ⟨w.heap.size + 1 + 1, 0, none⟩ = some (.int .i64 b0) := (blk_cell V_b.out.blk 0).trans rfl
                have f_b_0 : w_27.frozen? ⟨w.heap.size + 1 + 1, 0, none⟩ = false := blk_frozen V_b.out.blk 0
                have c_b_1 : w_27.cell? ⟨w.heap.size + 1 + 1, 1, none⟩ = some (.int .i64 b1) := (blk_cell V_b.out.blk 1).trans rfl
                have f_b_1 : w_27.frozen? ⟨w.heap.size + 1 + 1, 1, none⟩ = false := blk_frozen V_b.out.blk 1
                have V_k := n_k
                clear n_k
                have lt_k : w.heap.size + 1 + 1 + 1 < w_27.heap.size := blk_lt V_k.out.blk
                have c_k_0 : w_27.cell? ⟨w.heap.size + 1 + 1 + 1, 0, none⟩ = some (.int .i64 k0) := (blk_cell V_k.out.blk 0).trans rfl
                have f_k_0 : w_27.frozen? ⟨w.heap.size + 1 + 1 + 1, 0, none⟩ = false := blk_frozen V_k.out.blk 0
                have c_k_1 : w_27.cell? ⟨w.heap.size + 1 + 1 + 1, 1, none⟩ = some (.int .i64 k1) := (blk_cell V_k.out.blk 1).trans rfl
                have f_k_1 : w_27.frozen? ⟨w.heap.size + 1 + 1 + 1, 1, none⟩ = false := blk_frozen V_k.out.blk 1
                have V_oth := n_oth
                clear n_oth
                have lt_oth : w_2.heap.size < w_27.heap.size := blk_lt V_oth.out.blk
                have c_oth_0 : w_27.cell? ⟨w_2.heap.size, 0, none⟩ = some (.int .i64 y0) := (blk_cell V_oth.out.blk 0).trans rfl
                have f_oth_0 : w_27.frozen? ⟨w_2.heap.size, 0, none⟩ = false := blk_frozen V_oth.out.blk 0
                have c_oth_1 : w_27.cell? ⟨w_2.heap.size, 1, none⟩ = some (.int .i64 y1) := (blk_cell V_oth.out.blk 1).trans rfl
                have f_oth_1 : w_27.frozen? ⟨w_2.heap.size, 1, none⟩ = false := blk_frozen V_oth.out.blk 1
                have V_y := n_y
                clear n_y
                have lt_y : w_24.heap.size < w_27.heap.size := blk_lt V_y.out.blk
                have c_y_0 : w_27.cell? ⟨w_24.heap.size, 0, none⟩ = some (.int .i64 z0) := (blk_cell V_y.out.blk 0).trans rfl
                have f_y_0 : w_27.frozen? ⟨w_24.heap.size, 0, none⟩ = false := blk_frozen V_y.out.blk 0
                have c_y_1 : w_27.cell? ⟨w_24.heap.size, 1, none⟩ = some (.int .i64 z1) := (blk_cell V_y.out.blk 1).trans rfl
                have f_y_1 : w_27.frozen? ⟨w_24.heap.size, 1, none⟩ = false := blk_frozen V_y.out.blk 1
                have nR := Lib.hid (R.out.below hb_)
                clear R
                have R := nR
                clear nR
                clear hb_
                go_wp2_with fail
                go_ret
                exact ⟨rfl, HB1.out.trans (R.out.h.bel.mono HB1.out.size)⟩
              · skip
                have z_ := HZ.out (fun hh => h_i1 hh.2.2.2)
                have z_0 : (z0 == y0) = true := by simp [z_.1]
                have z_1 : (z1 == y1) = true := by simp [z_.2]
                clear z_
                have b_a0 : (a0 == b0) = true := by simp [h_a0]
                have b_a1 : (a1 == b1) = true := by simp [h_a1]
                have b_i0 : (i0 == k0) = true := by simp [h_i0]
                have b_i1 : (i1 == k1) = false := by simp [h_i1]
                clear h_a0 h_a1 h_i0 h_i1
                go_wp2_with fail
                refine (h1_cells R.out.c HC1.out).mono ?_
                rintro e_ w_26 ⟨rfl, hb_⟩
                have n_a : Hid (Var w_26 okh okc (w.heap.size) #[.int .i64 a0, .int .i64 a1] 23) := Lib.hid (V_a.out.below hb_)
                have n_i : Hid (Var w_26 okh okc (w.heap.size + 1) #[.int .i64 i0, .int .i64 i1] 23) := Lib.hid (V_i.out.below hb_)
                have n_b : Hid (Var w_26 okh okc (w.heap.size + 1 + 1) #[.int .i64 b0, .int .i64 b1] 23) := Lib.hid (V_b.out.below hb_)
                have n_k : Hid (Var w_26 okh okc (w.heap.size + 1 + 1 + 1) #[.int .i64 k0, .int .i64 k1] 23) := Lib.hid (V_k.out.below hb_)
                have n_oth : Hid (Var w_26 okh okc (w_2.heap.size) #[.int .i64 y0, .int .i64 y1] 23) := Lib.hid (V_oth.out.below hb_)
                have n_y : Hid (Var w_26 okh okc (w_24.heap.size) #[.int .i64 z0, .int .i64 z1] 23) := Lib.hid (V_y.out.below hb_)
                clear V_a lt_a c_a_0 f_a_0 c_a_1 f_a_1 V_i lt_i c_i_0 f_i_0 c_i_1 f_i_1 V_b lt_b c_b_0 f_b_0 c_b_1 f_b_1 V_k lt_k c_k_0 f_k_0 c_k_1 f_k_1 V_oth lt_oth c_oth_0 f_oth_0 c_oth_1 f_oth_1 V_y lt_y c_y_0 f_y_0 c_y_1 f_y_1
                have V_a := n_a
                clear n_a
                have lt_a : w.heap.size < w_26.heap.size := blk_lt V_a.out.blk
                have c_a_0 : w_26.cell? ⟨w.heap.size, 0, none⟩ = some (.int .i64 a0) := (blk_cell V_a.out.blk 0).trans rfl
                have f_a_0 : w_26.frozen? ⟨w.heap.size, 0, none⟩ = false := blk_frozen V_a.out.blk 0
                have c_a_1 : w_26.cell? ⟨w.heap.size, 1, none⟩ = some (.int .i64 a1) := (blk_cell V_a.out.blk 1).trans rfl
                have f_a_1 : w_26.frozen? ⟨w.heap.size, 1, none⟩ = false := blk_frozen V_a.out.blk 1
                have V_i := n_i
                clear n_i
                have lt_i : w.heap.size + 1 < w_26.heap.size := blk_lt V_i.out.blk
                have c_i_0 : w_26.cell? ⟨w.heap.size + 1, 0, none⟩ = some (.int .i64 i0) := (blk_cell V_i.out.blk 0).trans rfl
                have f_i_0 : w_26.frozen? ⟨w.heap.size + 1, 0, none⟩ = false := blk_frozen V_i.out.blk 0
                have c_i_1 : w_26.cell? ⟨w.heap.size + 1, 1, none⟩ = some (.int .i64 i1) := (blk_cell V_i.out.blk 1).trans rfl
                have f_i_1 : w_26.frozen? ⟨w.heap.size + 1, 1, none⟩ = false := blk_frozen V_i.out.blk 1
                have V_b := n_b
                clear n_b
                have lt_b : w.heap.size + 1 + 1 < w_26.heap.size := blk_lt V_b.out.blk
                have c_b_0 : w_26.cell? ⟨w.heap.size + 1 + 1, 0, none⟩ = some (.int .i64 b0) := (blk_cell V_b.out.blk 0).trans rfl
                have f_b_0 : w_26.frozen? ⟨w.heap.size + 1 + 1, 0, none⟩ = false := blk_frozen V_b.out.blk 0
                have c_b_1 : w_26.cell? ⟨w.heap.size + 1 + 1, 1, none⟩ = some (.int .i64 b1) := (blk_cell V_b.out.blk 1).trans rfl
                have f_b_1 : w_26.frozen? ⟨w.heap.size + 1 + 1, 1, none⟩ = false := blk_frozen V_b.out.blk 1
                have V_k := n_k
                clear n_k
                have lt_k : w.heap.size + 1 + 1 + 1 < w_26.heap.size := blk_lt V_k.out.blk
                have c_k_0 : w_26.cell? ⟨w.heap.size + 1 + 1 + 1, 0, none⟩ = some (.int .i64 k0) := (blk_cell V_k.out.blk 0).trans rfl
                have f_k_0 : w_26.frozen? ⟨w.heap.size + 1 + 1 + 1, 0, none⟩ = false := blk_frozen V_k.out.blk 0
                have c_k_1 : w_26.cell? ⟨w.heap.size + 1 + 1 + 1, 1, none⟩ = some (.int .i64 k1) := (blk_cell V_k.out.blk 1).trans rfl
                have f_k_1 : w_26.frozen? ⟨w.heap.size + 1 + 1 + 1, 1, none⟩ = false := blk_frozen V_k.out.blk 1
                have V_oth := n_oth
                clear n_oth
                have lt_oth : w_2.heap.size < w_26.heap.size := blk_lt V_oth.out.blk
                have c_oth_0 : w_26.cell? ⟨w_2.heap.size, 0, none⟩ = some (.int .i64 y0) := (blk_cell V_oth.out.blk 0).trans rfl
                have f_oth_0 : w_26.frozen? ⟨w_2.heap.size, 0, none⟩ = false := blk_frozen V_oth.out.blk 0
                have c_oth_1 : w_26.cell? ⟨w_2.heap.size, 1, none⟩ = some (.int .i64 y1) := (blk_cell V_oth.out.blk 1).trans rfl
                have f_oth_1 : w_26.frozen? ⟨w_2.heap.size, 1, none⟩ = false := blk_frozen V_oth.out.blk 1
                have V_y := n_y
                clear n_y
                have lt_y : w_24.heap.size < w_26.heap.size := blk_lt V_y.out.blk
                have c_y_0 : w_26.cell? ⟨w_24.heap.size, 0, none⟩ = some (.int .i64 z0) := (blk_cell V_y.out.blk 0).trans rfl
                have f_y_0 : w_26.frozen? ⟨w_24.heap.size, 0, none⟩ = false := blk_frozen V_y.out.blk 0
                have c_y_1 : w_26.cell? ⟨w_24.heap.size, 1, none⟩ = some (.int .i64 z1) := (blk_cell V_y.out.blk 1).trans rfl
                have f_y_1 : w_26.frozen? ⟨w_24.heap.size, 1, none⟩ = false := blk_frozen V_y.out.blk 1
                have nR := Lib.hid (R.out.below hb_)
                clear R
                have R := nR
                clear nR
                clear hb_
                go_wp2_with fail
                refine (h1_cells R.out.h HC2.out).mono ?_
                rintro e_ w_27 ⟨rfl, hb_⟩
                have n_a : Hid (Var w_27 okh okc (w.heap.size) #[.int .i64 a0, .int .i64 a1] 23) := Lib.hid (V_a.out.below hb_)
                have n_i : Hid (Var w_27 okh okc (w.heap.size + 1) #[.int .i64 i0, .int .i64 i1] 23) := Lib.hid (V_i.out.below hb_)
                have n_b : Hid (Var w_27 okh okc (w.heap.size + 1 + 1) #[.int .i64 b0, .int .i64 b1] 23) := Lib.hid (V_b.out.below hb_)
                have n_k : Hid (Var w_27 okh okc (w.heap.size + 1 + 1 + 1) #[.int .i64 k0, .int .i64 k1] 23) := Lib.hid (V_k.out.below hb_)
                have n_oth : Hid (Var w_27 okh okc (w_2.heap.size) #[.int .i64 y0, .int .i64 y1] 23) := Lib.hid (V_oth.out.below hb_)
                have n_y : Hid (Var w_27 okh okc (w_24.heap.size) #[.int .i64 z0, .int .i64 z1] 23) := Lib.hid (V_y.out.below hb_)
                clear V_a lt_a c_a_0 f_a_0 c_a_1 f_a_1 V_i lt_i c_i_0 f_i_0 c_i_1 f_i_1 V_b lt_b c_b_0 f_b_0 c_b_1 f_b_1 V_k lt_k c_k_0 f_k_0 c_k_1 f_k_1 V_oth lt_oth c_oth_0 f_oth_0 c_oth_1 f_oth_1 V_y lt_y c_y_0 f_y_0 c_y_1 f_y_1
                have V_a := n_a
                clear n_a
                have lt_a : w.heap.size < w_27.heap.size := blk_lt V_a.out.blk
                have c_a_0 : w_27.cell? ⟨w.heap.size, 0, none⟩ = some (.int .i64 a0) := (blk_cell V_a.out.blk 0).trans rfl
                have f_a_0 : w_27.frozen? ⟨w.heap.size, 0, none⟩ = false := blk_frozen V_a.out.blk 0
                have c_a_1 : w_27.cell? ⟨w.heap.size, 1, none⟩ = some (.int .i64 a1) := (blk_cell V_a.out.blk 1).trans rfl
                have f_a_1 : w_27.frozen? ⟨w.heap.size, 1, none⟩ = false := blk_frozen V_a.out.blk 1
                have V_i := n_i
                clear n_i
                have lt_i : w.heap.size + 1 < w_27.heap.size := blk_lt V_i.out.blk
                have c_i_0 : w_27.cell? ⟨w.heap.size + 1, 0, none⟩ = some (.int .i64 i0) := (blk_cell V_i.out.blk 0).trans rfl
                have f_i_0 : w_27.frozen? ⟨w.heap.size + 1, 0, none⟩ = false := blk_frozen V_i.out.blk 0
                have c_i_1 : w_27.cell? ⟨w.heap.size + 1, 1, none⟩ = some (.int .i64 i1) := (blk_cell V_i.out.blk 1).trans rfl
                have f_i_1 : w_27.frozen? ⟨w.heap.size + 1, 1, none⟩ = false := blk_frozen V_i.out.blk 1
                have V_b := n_b
                clear n_b
                have lt_b : w.heap.size + 1 + 1 < w_27.heap.size := blk_lt V_b.out.blk
                have c_b_0 : w_27.cell? ⟨w.heap.size + 1 + 1, 0, none⟩ = some (.int .i64 b0) := (blk_cell V_b.out.blk 0).trans rfl
                have f_b_0 : w_27.frozen? ⟨w.heap.size + 1 + 1, 0, none⟩ = false := blk_frozen V_b.out.blk 0
                have c_b_1 : w_27.cell? ⟨w.heap.size + 1 + 1, 1, none⟩ = some (.int .i64 b1) := (blk_cell V_b.out.blk 1).trans rfl
                have f_b_1 : w_27.frozen? ⟨w.heap.size + 1 + 1, 1, none⟩ = false := blk_frozen V_b.out.blk 1
                have V_k := n_k
                clear n_k
                have lt_k : w.heap.size + 1 + 1 + 1 < w_27.heap.size := blk_lt V_k.out.blk
                have c_k_0 : w_27.cell? ⟨w.heap.size + 1 + 1 + 1, 0, none⟩ = some (.int .i64 k0) := (blk_cell V_k.out.blk 0).trans rfl
                have f_k_0 : w_27.frozen? ⟨w.heap.size + 1 + 1 + 1, 0, none⟩ = false := blk_frozen V_k.out.blk 0
                have c_k_1 : w_27.cell? ⟨w.heap.size + 1 + 1 + 1, 1, none⟩ = some (.int .i64 k1) := (blk_cell V_k.out.blk 1).trans rfl
                have f_k_1 : w_27.frozen? ⟨w.heap.size + 1 + 1 + 1, 1, none⟩ = false := blk_frozen V_k.out.blk 1
                have V_oth := n_oth
                clear n_oth
                have lt_oth : w_2.heap.size < w_27.heap.size := blk_lt V_oth.out.blk
                have c_oth_0 : w_27.cell? ⟨w_2.heap.size, 0, none⟩ = some (.int .i64 y0) := (blk_cell V_oth.out.blk 0).trans rfl
                have f_oth_0 : w_27.frozen? ⟨w_2.heap.size, 0, none⟩ = false := blk_frozen V_oth.out.blk 0
                have c_oth_1 : w_27.cell? ⟨w_2.heap.size, 1, none⟩ = some (.int .i64 y1) := (blk_cell V_oth.out.blk 1).trans rfl
                have f_oth_1 : w_27.frozen? ⟨w_2.heap.size, 1, none⟩ = false := blk_frozen V_oth.out.blk 1
                have V_y := n_y
                clear n_y
                have lt_y : w_24.heap.size < w_27.heap.size := blk_lt V_y.out.blk
                have c_y_0 : w_27.cell? ⟨w_24.heap.size, 0, none⟩ = some (.int .i64 z0) := (blk_cell V_y.out.blk 0).trans rfl
                have f_y_0 : w_27.frozen? ⟨w_24.heap.size, 0, none⟩ = false := blk_frozen V_y.out.blk 0
                have c_y_1 : w_27.cell? ⟨w_24.heap.size, 1, none⟩ = some (.int .i64 z1) := (blk_cell V_y.out.blk 1).trans rfl
                have f_y_1 : w_27.frozen? ⟨w_24.heap.size, 1, none⟩ = false := blk_frozen V_y.out.blk 1
                have nR := Lib.hid (R.out.below hb_)
                clear R
                have R := nR
                clear nR
                clear hb_
                go_wp2_with fail
                go_ret
                exact ⟨rfl, HB1.out.trans (R.out.h.bel.mono HB1.out.size)⟩
            · skip
              have z_ := HZ.out (fun hh => h_i0 hh.2.2.1)
              have z_0 : (z0 == y0) = true := by simp [z_.1]
              have z_1 : (z1 == y1) = true := by simp [z_.2]
              clear z_
              have b_a0 : (a0 == b0) = true := by simp [h_a0]
              have b_a1 : (a1 == b1) = true := by simp [h_a1]
              have b_i0 : (i0 == k0) = false := by simp [h_i0]
              clear h_a0 h_a1 h_i0
              go_wp2_with fail
              refine (h1_cells R.out.c HC1.out).mono ?_
              rintro e_ w_26 ⟨rfl, hb_⟩
              have n_a : Hid (Var w_26 okh okc (w.heap.size) #[.int .i64 a0, .int .i64 a1] 23) := Lib.hid (V_a.out.below hb_)
              have n_i : Hid (Var w_26 okh okc (w.heap.size + 1) #[.int .i64 i0, .int .i64 i1] 23) := Lib.hid (V_i.out.below hb_)
              have n_b : Hid (Var w_26 okh okc (w.heap.size + 1 + 1) #[.int .i64 b0, .int .i64 b1] 23) := Lib.hid (V_b.out.below hb_)
              have n_k : Hid (Var w_26 okh okc (w.heap.size + 1 + 1 + 1) #[.int .i64 k0, .int .i64 k1] 23) := Lib.hid (V_k.out.below hb_)
              have n_oth : Hid (Var w_26 okh okc (w_2.heap.size) #[.int .i64 y0, .int .i64 y1] 23) := Lib.hid (V_oth.out.below hb_)
              have n_y : Hid (Var w_26 okh okc (w_24.heap.size) #[.int .i64 z0, .int .i64 z1] 23) := Lib.hid (V_y.out.below hb_)
              clear V_a lt_a c_a_0 f_a_0 c_a_1 f_a_1 V_i lt_i c_i_0 f_i_0 c_i_1 f_i_1 V_b lt_b c_b_0 f_b_0 c_b_1 f_b_1 V_k lt_k c_k_0 f_k_0 c_k_1 f_k_1 V_oth lt_oth c_oth_0 f_oth_0 c_oth_1 f_oth_1 V_y lt_y c_y_0 f_y_0 c_y_1 f_y_1
              have V_a := n_a
              clear n_a
              have lt_a : w.heap.size < w_26.heap.size := blk_lt V_a.out.blk
              have c_a_0 : w_26.cell? ⟨w.heap.size, 0, none⟩ = some (.int .i64 a0) := (blk_cell V_a.out.blk 0).trans rfl
              have f_a_0 : w_26.frozen? ⟨w.heap.size, 0, none⟩ = false := blk_frozen V_a.out.blk 0
              have c_a_1 : w_26.cell? ⟨w.heap.size, 1, none⟩ = some (.int .i64 a1) := (blk_cell V_a.out.blk 1).trans rfl
              have f_a_1 : w_26.frozen? ⟨w.heap.size, 1, none⟩ = false := blk_frozen V_a.out.blk 1
              have V_i := n_i
              clear n_i
              have lt_i : w.heap.size + 1 < w_26.heap.size := blk_lt V_i.out.blk
              have c_i_0 : w_26.cell? ⟨w.heap.size + 1, 0, none⟩ = some (.int .i64 i0) := (blk_cell V_i.out.blk 0).trans rfl
              have f_i_0 : w_26.frozen? ⟨w.heap.size + 1, 0, none⟩ = false := blk_frozen V_i.out.blk 0
              have c_i_1 : w_26.cell? ⟨w.heap.size + 1, 1, none⟩ = some (.int .i64 i1) := (blk_cell V_i.out.blk 1).trans rfl
              have f_i_1 : w_26.frozen? ⟨w.heap.size + 1, 1, none⟩ = false := blk_frozen V_i.out.blk 1
              have V_b := n_b
              clear n_b
              have lt_b : w.heap.size + 1 + 1 < w_26.heap.size := blk_lt V_b.out.blk
              have c_b_0 : w_26.cell? ⟨w.heap.size + 1 + 1, 0, none⟩ = some (.int .i64 b0) := (blk_cell V_b.out.blk 0).trans rfl
              have f_b_0 : w_26.frozen? ⟨w.heap.size + 1 + 1, 0, none⟩ = false := blk_frozen V_b.out.blk 0
              have c_b_1 : w_26.cell? ⟨w.heap.size + 1 + 1, 1, none⟩ = some (.int .i64 b1) := (blk_cell V_b.out.blk 1).trans rfl
              have f_b_1 : w_26.frozen? ⟨w.heap.size + 1 + 1, 1, none⟩ = false := blk_frozen V_b.out.blk 1
              have V_k := n_k
              clear n_k
              have lt_k : w.heap.size + 1 + 1 + 1 < w_26.heap.size := blk_lt V_k.out.blk
              have c_k_0 : w_26.cell? ⟨w.heap.size + 1 + 1 + 1, 0, none⟩ = some (.int .i64 k0) := (blk_cell V_k.out.blk 0).trans rfl
              have f_k_0 : w_26.frozen? ⟨w.heap.size + 1 + 1 + 1, 0, none⟩ = false := blk_frozen V_k.out.blk 0
              have c_k_1 : w_26.cell? ⟨w.heap.size + 1 + 1 + 1, 1, none⟩ = some (.int .i64 k1) := (blk_cell V_k.out.blk 1).trans rfl
              have f_k_1 : w_26.frozen? ⟨w.heap.size + 1 + 1 + 1, 1, none⟩ = false := blk_frozen V_k.out.blk 1
              have V_oth := n_oth
              clear n_oth
              have lt_oth : w_2.heap.size < w_26.heap.size := blk_lt V_oth.out.blk
              have c_oth_0 : w_26.cell? ⟨w_2.heap.size, 0, none⟩ = some (.int .i64 y0) := (blk_cell V_oth.out.blk 0).trans rfl
              have f_oth_0 : w_26.frozen? ⟨w_2.heap.size, 0, none⟩ = false := blk_frozen V_oth.out.blk 0
              have c_oth_1 : w_26.cell? ⟨w_2.heap.size, 1, none⟩ = some (.int .i64 y1) := (blk_cell V_oth.out.blk 1).trans rfl
              have f_oth_1 : w_26.frozen? ⟨w_2.heap.size, 1, none⟩ = false := blk_frozen V_oth.out.blk 1
              have V_y := n_y
              clear n_y
              have lt_y : w_24.heap.size < w_26.heap.size := blk_lt V_y.out.blk
              have c_y_0 : w_26.cell? ⟨w_24.heap.size, 0, none⟩ = some (.int .i64 z0) := (blk_cell V_y.out.blk 0).trans rfl
              have f_y_0 : w_26.frozen? ⟨w_24.heap.size, 0, none⟩ = false := blk_frozen V_y.out.blk 0
              have c_y_1 : w_26.cell? ⟨w_24.heap.size, 1, none⟩ = some (.int .i64 z1) := (blk_cell V_y.out.blk 1).trans rfl
              have f_y_1 : w_26.frozen? ⟨w_24.heap.size, 1, none⟩ = false := blk_frozen V_y.out.blk 1
              have nR := Lib.hid (R.out.below hb_)
              clear R
              have R := nR
              clear nR
              clear hb_
              go_wp2_with fail
              refine (h1_cells R.out.h HC2.out).mono ?_
              rintro e_ w_27 ⟨rfl, hb_⟩
              have n_a : Hid (Var w_27 okh okc (w.heap.size) #[.int .i64 a0, .int .i64 a1] 23) := Lib.hid (V_a.out.below hb_)
              have n_i : Hid (Var w_27 okh okc (w.heap.size + 1) #[.int .i64 i0, .int .i64 i1] 23) := Lib.hid (V_i.out.below hb_)
              have n_b : Hid (Var w_27 okh okc (w.heap.size + 1 + 1) #[.int .i64 b0, .int .i64 b1] 23) := Lib.hid (V_b.out.below hb_)
              have n_k : Hid (Var w_27 okh okc (w.heap.size + 1 + 1 + 1) #[.int .i64 k0, .int .i64 k1] 23) := Lib.hid (V_k.out.below hb_)
              have n_oth : Hid (Var w_27 okh okc (w_2.heap.size) #[.int .i64 y0, .int .i64 y1] 23) := Lib.hid (V_oth.out.below hb_)
              have n_y : Hid (Var w_27 okh okc (w_24.heap.size) #[.int .i64 z0, .int .i64 z1] 23) := Lib.hid (V_y.out.below hb_)
              clear V_a lt_a c_a_0 f_a_0 c_a_1 f_a_1 V_i lt_i c_i_0 f_i_0 c_i_1 f_i_1 V_b lt_b c_b_0 f_b_0 c_b_1 f_b_1 V_k lt_k c_k_0 f_k_0 c_k_1 f_k_1 V_oth lt_oth c_oth_0 f_oth_0 c_oth_1 f_oth_1 V_y lt_y c_y_0 f_y_0 c_y_1 f_y_1
              have V_a := n_a
              clear n_a
              have lt_a : w.heap.size < w_27.heap.size := blk_lt V_a.out.blk
              have c_a_0 : w_27.cell? ⟨w.heap.size, 0, none⟩ = some (.int .i64 a0) := (blk_cell V_a.out.blk 0).trans rfl
              have f_a_0 : w_27.frozen? ⟨w.heap.size, 0, none⟩ = false := blk_frozen V_a.out.blk 0
              have c_a_1 : w_27.cell? ⟨w.heap.size, 1, none⟩ = some (.int .i64 a1) := (blk_cell V_a.out.blk 1).trans rfl
              have f_a_1 : w_27.frozen? ⟨w.heap.size, 1, none⟩ = false := blk_frozen V_a.out.blk 1
              have V_i := n_i
              clear n_i
              have lt_i : w.heap.size + 1 < w_27.heap.size := blk_lt V_i.out.blk
              have c_i_0 : w_27.cell? ⟨w.heap.size + 1, 0, none⟩ = some (.int .i64 i0) := (blk_cell V_i.out.blk 0).trans rfl
              have f_i_0 : w_27.frozen? ⟨w.heap.size + 1, 0, none⟩ = false := blk_frozen V_i.out.blk 0
              have c_i_1 : w_27.cell? ⟨w.heap.size + 1, 1, none⟩ = some (.int .i64 i1) := (blk_cell V_i.out.blk 1).trans rfl
              have f_i_1 : w_27.frozen? ⟨w.heap.size + 1, 1, none⟩ = false := blk_frozen V_i.out.blk 1
              have V_b := n_b
              clear n_b
              have lt_b : w.heap.size + 1 + 1 < w_27.heap.size := blk_lt V_b.out.blk
              have c_b_0 : w_27.cell? ⟨w.heap.size + 1 + 1, 0, none⟩ = some (.int .i64 b0) := (blk_cell V_b.out.blk 0).trans rfl
              have f_b_0 : w_27.frozen? ⟨w.heap.size + 1 + 1, 0, none⟩ = false := blk_frozen V_b.out.blk 0
              have c_b_1 : w_27.cell? ⟨w.heap.size + 1 + 1, 1, none⟩ = some (.int .i64 b1) := (blk_cell V_b.out.blk 1).trans rfl
              have f_b_1 : w_27.frozen? ⟨w.heap.size + 1 + 1, 1, none⟩ = false := blk_frozen V_b.out.blk 1
              have V_k := n_k
              clear n_k
              have lt_k : w.heap.size + 1 + 1 + 1 < w_27.heap.size := blk_lt V_k.out.blk
              have c_k_0 : w_27.cell? ⟨w.heap.size + 1 + 1 + 1, 0, none⟩ = some (.int .i64 k0) := (blk_cell V_k.out.blk 0).trans rfl
              have f_k_0 : w_27.frozen? ⟨w.heap.size + 1 + 1 + 1, 0, none⟩ = false := blk_frozen V_k.out.blk 0
              have c_k_1 : w_27.cell? ⟨w.heap.size + 1 + 1 + 1, 1, none⟩ = some (.int .i64 k1) := (blk_cell V_k.out.blk 1).trans rfl
              have f_k_1 : w_27.frozen? ⟨w.heap.size + 1 + 1 + 1, 1, none⟩ = false := blk_frozen V_k.out.blk 1
              have V_oth := n_oth
              clear n_oth
              have lt_oth : w_2.heap.size < w_27.heap.size := blk_lt V_oth.out.blk
              have c_oth_0 : w_27.cell? ⟨w_2.heap.size, 0, none⟩ = some (.int .i64 y0) := (blk_cell V_oth.out.blk 0).trans rfl
              have f_oth_0 : w_27.frozen? ⟨w_2.heap.size, 0, none⟩ = false := blk_frozen V_oth.out.blk 0
              have c_oth_1 : w_27.cell? ⟨w_2.heap.size, 1, none⟩ = some (.int .i64 y1) := (blk_cell V_oth.out.blk 1).trans rfl
              have f_oth_1 : w_27.frozen? ⟨w_2.heap.size, 1, none⟩ = false := blk_frozen V_oth.out.blk 1
              have V_y := n_y
              clear n_y
              have lt_y : w_24.heap.size < w_27.heap.size := blk_lt V_y.out.blk
              have c_y_0 : w_27.cell? ⟨w_24.heap.size, 0, none⟩ = some (.int .i64 z0) := (blk_cell V_y.out.blk 0).trans rfl
              have f_y_0 : w_27.frozen? ⟨w_24.heap.size, 0, none⟩ = false := blk_frozen V_y.out.blk 0
              have c_y_1 : w_27.cell? ⟨w_24.heap.size, 1, none⟩ = some (.int .i64 z1) := (blk_cell V_y.out.blk 1).trans rfl
              have f_y_1 : w_27.frozen? ⟨w_24.heap.size, 1, none⟩ = false := blk_frozen V_y.out.blk 1
              have nR := Lib.hid (R.out.below hb_)
              clear R
              have R := nR
              clear nR
              clear hb_
              go_wp2_with fail
              go_ret
              exact ⟨rfl, HB1.out.trans (R.out.h.bel.mono HB1.out.size)⟩
          · skip
            have z_ := HZ.out (fun hh => h_a1 hh.2.1)
            have z_0 : (z0 == y0) = true := by simp [z_.1]
            have z_1 : (z1 == y1) = true := by simp [z_.2]
            clear z_
            have b_a0 : (a0 == b0) = true := by simp [h_a0]
            have b_a1 : (a1 == b1) = false := by simp [h_a1]
            clear h_a0 h_a1
            go_wp2_with fail
            refine (h1_cells R.out.c HC1.out).mono ?_
            rintro e_ w_26 ⟨rfl, hb_⟩
            have n_a : Hid (Var w_26 okh okc (w.heap.size) #[.int .i64 a0, .int .i64 a1] 23) := Lib.hid (V_a.out.below hb_)
            have n_i : Hid (Var w_26 okh okc (w.heap.size + 1) #[.int .i64 i0, .int .i64 i1] 23) := Lib.hid (V_i.out.below hb_)
            have n_b : Hid (Var w_26 okh okc (w.heap.size + 1 + 1) #[.int .i64 b0, .int .i64 b1] 23) := Lib.hid (V_b.out.below hb_)
            have n_k : Hid (Var w_26 okh okc (w.heap.size + 1 + 1 + 1) #[.int .i64 k0, .int .i64 k1] 23) := Lib.hid (V_k.out.below hb_)
            have n_oth : Hid (Var w_26 okh okc (w_2.heap.size) #[.int .i64 y0, .int .i64 y1] 23) := Lib.hid (V_oth.out.below hb_)
            have n_y : Hid (Var w_26 okh okc (w_24.heap.size) #[.int .i64 z0, .int .i64 z1] 23) := Lib.hid (V_y.out.below hb_)
            clear V_a lt_a c_a_0 f_a_0 c_a_1 f_a_1 V_i lt_i c_i_0 f_i_0 c_i_1 f_i_1 V_b lt_b c_b_0 f_b_0 c_b_1 f_b_1 V_k lt_k c_k_0 f_k_0 c_k_1 f_k_1 V_oth lt_oth c_oth_0 f_oth_0 c_oth_1 f_oth_1 V_y lt_y c_y_0 f_y_0 c_y_1 f_y_1
            have V_a := n_a
            clear n_a
            have lt_a : w.heap.size < w_26.heap.size := blk_lt V_a.out.blk
            have c_a_0 : w_26.cell? ⟨w.heap.size, 0, none⟩ = some (.int .i64 a0) := (blk_cell V_a.out.blk 0).trans rfl
            have f_a_0 : w_26.frozen? ⟨w.heap.size, 0, none⟩ = false := blk_frozen V_a.out.blk 0
            have c_a_1 : w_26.cell? ⟨w.heap.size, 1, none⟩ = some (.int .i64 a1) := (blk_cell V_a.out.blk 1).trans rfl
            have f_a_1 : w_26.frozen? ⟨w.heap.size, 1, none⟩ = false := blk_frozen V_a.out.blk 1
            have V_i := n_i
            clear n_i
            have lt_i : w.heap.size + 1 < w_26.heap.size := blk_lt V_i.out.blk
            have c_i_0 : w_26.cell? ⟨w.heap.size + 1, 0, none⟩ = some (.int .i64 i0) := (blk_cell V_i.out.blk 0).trans rfl
            have f_i_0 : w_26.frozen? ⟨w.heap.size + 1, 0, none⟩ = false := blk_frozen V_i.out.blk 0
            have c_i_1 : w_26.cell? ⟨w.heap.size + 1, 1, none⟩ = some (.int .i64 i1) := (blk_cell V_i.out.blk 1).trans rfl
            have f_i_1 : w_26.frozen? ⟨w.heap.size + 1, 1, none⟩ = false := blk_frozen V_i.out.blk 1
            have V_b := n_b
            clear n_b
            have lt_b : w.heap.size + 1 + 1 < w_26.heap.size := blk_lt V_b.out.blk
            have c_b_0 : w_26.cell? ⟨w.heap.size + 1 + 1, 0, none⟩ = some (.int .i64 b0) := (blk_cell V_b.out.blk 0).trans rfl
            have f_b_0 : w_26.frozen? ⟨w.heap.size + 1 + 1, 0, none⟩ = false := blk_frozen V_b.out.blk 0
            have c_b_1 : w_26.cell? ⟨w.heap.size + 1 + 1, 1, none⟩ = some (.int .i64 b1) := (blk_cell V_b.out.blk 1).trans rfl
            have f_b_1 : w_26.frozen? ⟨w.heap.size + 1 + 1, 1, none⟩ = false := blk_frozen V_b.out.blk 1
            have V_k := n_k
            clear n_k
            have lt_k : w.heap.size + 1 + 1 + 1 < w_26.heap.size := blk_lt V_k.out.blk
            have c_k_0 : w_26.cell? ⟨w.heap.size + 1 + 1 + 1, 0, none⟩ = some (.int .i64 k0) := (blk_cell V_k.out.blk 0).trans rfl
            have f_k_0 : w_26.frozen? ⟨w.heap.size + 1 + 1 + 1, 0, none⟩ = false := blk_frozen V_k.out.blk 0
            have c_k_1 : w_26.cell? ⟨w.heap.size + 1 + 1 + 1, 1, none⟩ = some (.int .i64 k1) := (blk_cell V_k.out.blk 1).trans rfl
            have f_k_1 : w_26.frozen? ⟨w.heap.size + 1 + 1 + 1, 1, none⟩ = false := blk_frozen V_k.out.blk 1
            have V_oth := n_oth
            clear n_oth
            have lt_oth : w_2.heap.size < w_26.heap.size := blk_lt V_oth.out.blk
            have c_oth_0 : w_26.cell? ⟨w_2.heap.size, 0, none⟩ = some (.int .i64 y0) := (blk_cell V_oth.out.blk 0).trans rfl
            have f_oth_0 : w_26.frozen? ⟨w_2.heap.size, 0, none⟩ = false := blk_frozen V_oth.out.blk 0
            have c_oth_1 : w_26.cell? ⟨w_2.heap.size, 1, none⟩ = some (.int .i64 y1) := (blk_cell V_oth.out.blk 1).trans rfl
            have f_oth_1 : w_26.frozen? ⟨w_2.heap.size, 1, none⟩ = false := blk_frozen V_oth.out.blk 1
            have V_y := n_y
            clear n_y
            have lt_y : w_24.heap.size < w_26.heap.size := blk_lt V_y.out.blk
            have c_y_0 : w_26.cell? ⟨w_24.heap.size, 0, none⟩ = some (.int .i64 z0) := (blk_cell V_y.out.blk 0).trans rfl
            have f_y_0 : w_26.frozen? ⟨w_24.heap.size, 0, none⟩ = false := blk_frozen V_y.out.blk 0
            have c_y_1 : w_26.cell? ⟨w_24.heap.size, 1, none⟩ = some (.int .i64 z1) := (blk_cell V_y.out.blk 1).trans rfl
            have f_y_1 : w_26.frozen? ⟨w_24.heap.size, 1, none⟩ = false := blk_frozen V_y.out.blk 1
            have nR := Lib.hid (R.out.below hb_)
            clear R
            have R := nR
            clear nR
            clear hb_
            go_wp2_with fail
            refine (h1_cells R.out.h HC2.out).mono ?_
            rintro e_ w_27 ⟨rfl, hb_⟩
            have n_a : Hid (Var w_27 okh okc (w.heap.size) #[.int .i64 a0, .int .i64 a1] 23) := Lib.hid (V_a.out.below hb_)
            have n_i : Hid (Var w_27 okh okc (w.heap.size + 1) #[.int .i64 i0, .int .i64 i1] 23) := Lib.hid (V_i.out.below hb_)
            have n_b : Hid (Var w_27 okh okc (w.heap.size + 1 + 1) #[.int .i64 b0, .int .i64 b1] 23) := Lib.hid (V_b.out.below hb_)
            have n_k : Hid (Var w_27 okh okc (w.heap.size + 1 + 1 + 1) #[.int .i64 k0, .int .i64 k1] 23) := Lib.hid (V_k.out.below hb_)
            have n_oth : Hid (Var w_27 okh okc (w_2.heap.size) #[.int .i64 y0, .int .i64 y1] 23) := Lib.hid (V_oth.out.below hb_)
            have n_y : Hid (Var w_27 okh okc (w_24.heap.size) #[.int .i64 z0, .int .i64 z1] 23) := Lib.hid (V_y.out.below hb_)
            clear V_a lt_a c_a_0 f_a_0 c_a_1 f_a_1 V_i lt_i c_i_0 f_i_0 c_i_1 f_i_1 V_b lt_b c_b_0 f_b_0 c_b_1 f_b_1 V_k lt_k c_k_0 f_k_0 c_k_1 f_k_1 V_oth lt_oth c_oth_0 f_oth_0 c_oth_1 f_oth_1 V_y lt_y c_y_0 f_y_0 c_y_1 f_y_1
            have V_a := n_a
            clear n_a
            have lt_a : w.heap.size < w_27.heap.size := blk_lt V_a.out.blk
            have c_a_0 : w_27.cell? ⟨w.heap.size, 0, none⟩ = some (.int .i64 a0) := (blk_cell V_a.out.blk 0).trans rfl
            have f_a_0 : w_27.frozen? ⟨w.heap.size, 0, none⟩ = false := blk_frozen V_a.out.blk 0
            have c_a_1 : w_27.cell? ⟨w.heap.size, 1, none⟩ = some (.int .i64 a1) := (blk_cell V_a.out.blk 1).trans rfl
            have f_a_1 : w_27.frozen? ⟨w.heap.size, 1, none⟩ = false := blk_frozen V_a.out.blk 1
            have V_i := n_i
            clear n_i
            have lt_i : w.heap.size + 1 < w_27.heap.size := blk_lt V_i.out.blk
            have c_i_0 : w_27.cell? ⟨w.heap.size + 1, 0, none⟩ = some (.int .i64 i0) := (blk_cell V_i.out.blk 0).trans rfl
            have f_i_0 : w_27.frozen? ⟨w.heap.size + 1, 0, none⟩ = false := blk_frozen V_i.out.blk 0
            have c_i_1 : w_27.cell? ⟨w.heap.size + 1, 1, none⟩ = some (.int .i64 i1) := (blk_cell V_i.out.blk 1).trans rfl
            have f_i_1 : w_27.frozen? ⟨w.heap.size + 1, 1, none⟩ = false := blk_frozen V_i.out.blk 1
            have V_b := n_b
            clear n_b
            have lt_b : w.heap.size + 1 + 1 < w_27.heap.size := blk_lt V_b.out.blk
            have c_b_0 : w_27.cell? ⟨w.heap.size + 1 + 1, 0, none⟩ = some (.int .i64 b0) := (blk_cell V_b.out.blk 0).trans rfl
            have f_b_0 : w_27.frozen? ⟨w.heap.size + 1 + 1, 0, none⟩ = false := blk_frozen V_b.out.blk 0
            have c_b_1 : w_27.cell? ⟨w.heap.size + 1 + 1, 1, none⟩ = some (.int .i64 b1) := (blk_cell V_b.out.blk 1).trans rfl
            have f_b_1 : w_27.frozen? ⟨w.heap.size + 1 + 1, 1, none⟩ = false := blk_frozen V_b.out.blk 1
            have V_k := n_k
            clear n_k
            have lt_k : w.heap.size + 1 + 1 + 1 < w_27.heap.size := blk_lt V_k.out.blk
            have c_k_0 : w_27.cell? ⟨w.heap.size + 1 + 1 + 1, 0, none⟩ = some (.int .i64 k0) := (blk_cell V_k.out.blk 0).trans rfl
            have f_k_0 : w_27.frozen? ⟨w.heap.size + 1 + 1 + 1, 0, none⟩ = false := blk_frozen V_k.out.blk 0
            have c_k_1 : w_27.cell? ⟨w.heap.size + 1 + 1 + 1, 1, none⟩ = some (.int .i64 k1) := (blk_cell V_k.out.blk 1).trans rfl
            have f_k_1 : w_27.frozen? ⟨w.heap.size + 1 + 1 + 1, 1, none⟩ = false := blk_frozen V_k.out.blk 1
            have V_oth := n_oth
            clear n_oth
            have lt_oth : w_2.heap.size < w_27.heap.size := blk_lt V_oth.out.blk
            have c_oth_0 : w_27.cell? ⟨w_2.heap.size, 0, none⟩ = some (.int .i64 y0) := (blk_cell V_oth.out.blk 0).trans rfl
            have f_oth_0 : w_27.frozen? ⟨w_2.heap.size, 0, none⟩ = false := blk_frozen V_oth.out.blk 0
            have c_oth_1 : w_27.cell? ⟨w_2.heap.size, 1, none⟩ = some (.int .i64 y1) := (blk_cell V_oth.out.blk 1).trans rfl
            have f_oth_1 : w_27.frozen? ⟨w_2.heap.size, 1, none⟩ = false := blk_frozen V_oth.out.blk 1
            have V_y := n_y
            clear n_y
            have lt_y : w_24.heap.size < w_27.heap.size := blk_lt V_y.out.blk
            have c_y_0 : w_27.cell? ⟨w_24.heap.size, 0, none⟩ = some (.int .i64 z0) := (blk_cell V_y.out.blk 0).trans rfl
            have f_y_0 : w_27.frozen? ⟨w_24.heap.size, 0, none⟩ = false := blk_frozen V_y.out.blk 0
            have c_y_1 : w_27.cell? ⟨w_24.heap.size, 1, none⟩ = some (.int .i64 z1) := (blk_cell V_y.out.blk 1).trans rfl
            have f_y_1 : w_27.frozen? ⟨w_24.heap.size, 1, none⟩ = false := blk_frozen V_y.out.blk 1
            have nR := Lib.hid (R.out.below hb_)
            clear R
            have R := nR
            clear nR
            clear hb_
            go_wp2_with fail
            go_ret
            exact ⟨rfl, HB1.out.trans (R.out.h.bel.mono HB1.out.size)⟩
        · skip
          have z_ := HZ.out (fun hh => h_a0 hh.1)
          have z_0 : (z0 == y0) = true := by simp [z_.1]
          have z_1 : (z1 == y1) = true := by simp [z_.2]
          clear z_
          have b_a0 : (a0 == b0) = false := by simp [h_a0]
          clear h_a0
          go_wp2_with fail
          refine (h1_cells R.out.c HC1.out).mono ?_
          rintro e_ w_26 ⟨rfl, hb_⟩
          have n_a : Hid (Var w_26 okh okc (w.heap.size) #[.int .i64 a0, .int .i64 a1] 23) := Lib.hid (V_a.out.below hb_)
          have n_i : Hid (Var w_26 okh okc (w.heap.size + 1) #[.int .i64 i0, .int .i64 i1] 23) := Lib.hid (V_i.out.below hb_)
          have n_b : Hid (Var w_26 okh okc (w.heap.size + 1 + 1) #[.int .i64 b0, .int .i64 b1] 23) := Lib.hid (V_b.out.below hb_)
          have n_k : Hid (Var w_26 okh okc (w.heap.size + 1 + 1 + 1) #[.int .i64 k0, .int .i64 k1] 23) := Lib.hid (V_k.out.below hb_)
          have n_oth : Hid (Var w_26 okh okc (w_2.heap.size) #[.int .i64 y0, .int .i64 y1] 23) := Lib.hid (V_oth.out.below hb_)
          have n_y : Hid (Var w_26 okh okc (w_24.heap.size) #[.int .i64 z0, .int .i64 z1] 23) := Lib.hid (V_y.out.below hb_)
          clear V_a lt_a c_a_0 f_a_0 c_a_1 f_a_1 V_i lt_i c_i_0 f_i_0 c_i_1 f_i_1 V_b lt_b c_b_0 f_b_0 c_b_1 f_b_1 V_k lt_k c_k_0 f_k_0 c_k_1 f_k_1 V_oth lt_oth c_oth_0 f_oth_0 c_oth_1 f_oth_1 V_y lt_y c_y_0 f_y_0 c_y_1 f_y_1
          have V_a := n_a
          clear n_a
          have lt_a : w.heap.size < w_26.heap.size := blk_lt V_a.out.blk
          have c_a_0 : w_26.cell? ⟨w.heap.size, 0, none⟩ = some (.int .i64 a0) := (blk_cell V_a.out.blk 0).trans rfl
          have f_a_0 : w_26.frozen? ⟨w.heap.size, 0, none⟩ = false := blk_frozen V_a.out.blk 0
          have c_a_1 : w_26.cell? ⟨w.heap.size, 1, none⟩ = some (.int .i64 a1) := (blk_cell V_a.out.blk 1).trans rfl
          have f_a_1 : w_26.frozen? ⟨w.heap.size, 1, none⟩ = false := blk_frozen V_a.out.blk 1
          have V_i := n_i
          clear n_i
          have lt_i : w.heap.size + 1 < w_26.heap.size := blk_lt V_i.out.blk
          have c_i_0 : w_26.cell? ⟨w.heap.size + 1, 0, none⟩ = some (.int .i64 i0) := (blk_cell V_i.out.blk 0).trans rfl
          have f_i_0 : w_26.frozen? ⟨w.heap.size + 1, 0, none⟩ = false := blk_frozen V_i.out.blk 0
          have c_i_1 : w_26.cell? ⟨w.heap.size + 1, 1, none⟩ = some (.int .i64 i1) := (blk_cell V_i.out.blk 1).trans rfl
          have f_i_1 : w_26.frozen? ⟨w.heap.size + 1, 1, none⟩ = false := blk_frozen V_i.out.blk 1
          have V_b := n_b
          clear n_b
          have lt_b : w.heap.size + 1 + 1 < w_26.heap.size := blk_lt V_b.out.blk
          have c_b_0 : w_26.cell? ⟨w.heap.size + 1 + 1, 0, none⟩ = some (.int .i64 b0) := (blk_cell V_b.out.blk 0).trans rfl
          have f_b_0 : w_26.frozen? ⟨w.heap.size + 1 + 1, 0, none⟩ = false := blk_frozen V_b.out.blk 0
          have c_b_1 : w_26.cell? ⟨w.heap.size + 1 + 1, 1, none⟩ = some (.int .i64 b1) := (blk_cell V_b.out.blk 1).trans rfl
          have f_b_1 : w_26.frozen? ⟨w.heap.size + 1 + 1, 1, none⟩ = false := blk_frozen V_b.out.blk 1
          have V_k := n_k
          clear n_k
          have lt_k : w.heap.size + 1 + 1 + 1 < w_26.heap.size := blk_lt V_k.out.blk
          have c_k_0 : w_26.cell? ⟨w.heap.size + 1 + 1 + 1, 0, none⟩ = some (.int .i64 k0) := (blk_cell V_k.out.blk 0).trans rfl
          have f_k_0 : w_26.frozen? ⟨w.heap.size + 1 + 1 + 1, 0, none⟩ = false := blk_frozen V_k.out.blk 0
          have c_k_1 : w_26.cell? ⟨w.heap.size + 1 + 1 + 1, 1, none⟩ = some (.int .i64 k1) := (blk_cell V_k.out.blk 1).trans rfl
          have f_k_1 : w_26.frozen? ⟨w.heap.size + 1 + 1 + 1, 1, none⟩ = false := blk_frozen V_k.out.blk 1
          have V_oth := n_oth
          clear n_oth
          have lt_oth : w_2.heap.size < w_26.heap.size := blk_lt V_oth.out.blk
          have c_oth_0 : w_26.cell? ⟨w_2.heap.size, 0, none⟩ = some (.int .i64 y0) := (blk_cell V_oth.out.blk 0).trans rfl
          have f_oth_0 : w_26.frozen? ⟨w_2.heap.size, 0, none⟩ = false := blk_frozen V_oth.out.blk 0
          have c_oth_1 : w_26.cell? ⟨w_2.heap.size, 1, none⟩ = some (.int .i64 y1) := (blk_cell V_oth.out.blk 1).trans rfl
          have f_oth_1 : w_26.frozen? ⟨w_2.heap.size, 1, none⟩ = false := blk_frozen V_oth.out.blk 1
          have V_y := n_y
          clear n_y
          have lt_y : w_24.heap.size < w_26.heap.size := blk_lt V_y.out.blk
          have c_y_0 : w_26.cell? ⟨w_24.heap.size, 0, none⟩ = some (.int .i64 z0) := (blk_cell V_y.out.blk 0).trans rfl
          have f_y_0 : w_26.frozen? ⟨w_24.heap.size, 0, none⟩ = false := blk_frozen V_y.out.blk 0
          have c_y_1 : w_26.cell? ⟨w_24.heap.size, 1, none⟩ = some (.int .i64 z1) := (blk_cell V_y.out.blk 1).trans rfl
          have f_y_1 : w_26.frozen? ⟨w_24.heap.size, 1, none⟩ = false := blk_frozen V_y.out.blk 1
          have nR := Lib.hid (R.out.below hb_)
          clear R
          have R := nR
          clear nR
          clear hb_
          go_wp2_with fail
          refine (h1_cells R.out.h HC2.out).mono ?_
          rintro e_ w_27 ⟨rfl, hb_⟩
          have n_a : Hid (Var w_27 okh okc (w.heap.size) #[.int .i64 a0, .int .i64 a1] 23) := Lib.hid (V_a.out.below hb_)
          have n_i : Hid (Var w_27 okh okc (w.heap.size + 1) #[.int .i64 i0, .int .i64 i1] 23) := Lib.hid (V_i.out.below hb_)
          have n_b : Hid (Var w_27 okh okc (w.heap.size + 1 + 1) #[.int .i64 b0, .int .i64 b1] 23) := Lib.hid (V_b.out.below hb_)
          have n_k : Hid (Var w_27 okh okc (w.heap.size + 1 + 1 + 1) #[.int .i64 k0, .int .i64 k1] 23) := Lib.hid (V_k.out.below hb_)
          have n_oth : Hid (Var w_27 okh okc (w_2.heap.size) #[.int .i64 y0, .int .i64 y1] 23) := Lib.hid (V_oth.out.below hb_)
          have n_y : Hid (Var w_27 okh okc (w_24.heap.size) #[.int .i64 z0, .int .i64 z1] 23) := Lib.hid (V_y.out.below hb_)
          clear V_a lt_a c_a_0 f_a_0 c_a_1 f_a_1 V_i lt_i c_i_0 f_i_0 c_i_1 f_i_1 V_b lt_b c_b_0 f_b_0 c_b_1 f_b_1 V_k lt_k c_k_0 f_k_0 c_k_1 f_k_1 V_oth lt_oth c_oth_0 f_oth_0 c_oth_1 f_oth_1 V_y lt_y c_y_0 f_y_0 c_y_1 f_y_1
          have V_a := n_a
          clear n_a
          have lt_a : w.heap.size < w_27.heap.size := blk_lt V_a.out.blk
          have c_a_0 : w_27.cell? ⟨w.heap.size, 0, none⟩ = some (.int .i64 a0) := (blk_cell V_a.out.blk 0).trans rfl
          have f_a_0 : w_27.frozen? ⟨w.heap.size, 0, none⟩ = false := blk_frozen V_a.out.blk 0
          have c_a_1 : w_27.cell? ⟨w.heap.size, 1, none⟩ = some (.int .i64 a1) := (blk_cell V_a.out.blk 1).trans rfl
          have f_a_1 : w_27.frozen? ⟨w.heap.size, 1, none⟩ = false := blk_frozen V_a.out.blk 1
          have V_i := n_i
          clear n_i
          have lt_i : w.heap.size + 1 < w_27.heap.size := blk_lt V_i.out.blk
          have c_i_0 : w_27.cell? ⟨w.heap.size + 1, 0, none⟩ = some (.int .i64 i0) := (blk_cell V_i.out.blk 0).trans rfl
          have f_i_0 : w_27.frozen? ⟨w.heap.size + 1, 0, none⟩ = false := blk_frozen V_i.out.blk 0
          have c_i_1 : w_27.cell? ⟨w.heap.size + 1, 1, none⟩ = some (.int .i64 i1) := (blk_cell V_i.out.blk 1).trans rfl
          have f_i_1 : w_27.frozen? ⟨w.heap.size + 1, 1, none⟩ = false := blk_frozen V_i.out.blk 1
          have V_b := n_b
          clear n_b
          have lt_b : w.heap.size + 1 + 1 < w_27.heap.size := blk_lt V_b.out.blk
          have c_b_0 : w_27.cell? ⟨w.heap.size + 1 + 1, 0, none⟩ = some (.int .i64 b0) := (blk_cell V_b.out.blk 0).trans rfl
          have f_b_0 : w_27.frozen? ⟨w.heap.size + 1 + 1, 0, none⟩ = false := blk_frozen V_b.out.blk 0
          have c_b_1 : w_27.cell? ⟨w.heap.size + 1 + 1, 1, none⟩ = some (.int .i64 b1) := (blk_cell V_b.out.blk 1).trans rfl
          have f_b_1 : w_27.frozen? ⟨w.heap.size + 1 + 1, 1, none⟩ = false := blk_frozen V_b.out.blk 1
          have V_k := n_k
          clear n_k
          have lt_k : w.heap.size + 1 + 1 + 1 < w_27.heap.size := blk_lt V_k.out.blk
          have c_k_0 : w_27.cell? ⟨w.heap.size + 1 + 1 + 1, 0, none⟩ = some (.int .i64 k0) := (blk_cell V_k.out.blk 0).trans rfl
          have f_k_0 : w_27.frozen? ⟨w.heap.size + 1 + 1 + 1, 0, none⟩ = false := blk_frozen V_k.out.blk 0
          have c_k_1 : w_27.cell? ⟨w.heap.size + 1 + 1 + 1, 1, none⟩ = some (.int .i64 k1) := (blk_cell V_k.out.blk 1).trans rfl
          have f_k_1 : w_27.frozen? ⟨w.heap.size + 1 + 1 + 1, 1, none⟩ = false := blk_frozen V_k.out.blk 1
          have V_oth := n_oth
          clear n_oth
          have lt_oth : w_2.heap.size < w_27.heap.size := blk_lt V_oth.out.blk
          have c_oth_0 : w_27.cell? ⟨w_2.heap.size, 0, none⟩ = some (.int .i64 y0) := (blk_cell V_oth.out.blk 0).trans rfl
          have f_oth_0 : w_27.frozen? ⟨w_2.heap.size, 0, none⟩ = false := blk_frozen V_oth.out.blk 0
          have c_oth_1 : w_27.cell? ⟨w_2.heap.size, 1, none⟩ = some (.int .i64 y1) := (blk_cell V_oth.out.blk 1).trans rfl
          have f_oth_1 : w_27.frozen? ⟨w_2.heap.size, 1, none⟩ = false := blk_frozen V_oth.out.blk 1
          have V_y := n_y
          clear n_y
          have lt_y : w_24.heap.size < w_27.heap.size := blk_lt V_y.out.blk
          have c_y_0 : w_27.cell? ⟨w_24.heap.size, 0, none⟩ = some (.int .i64 z0) := (blk_cell V_y.out.blk 0).trans rfl
          have f_y_0 : w_27.frozen? ⟨w_24.heap.size, 0, none⟩ = false := blk_frozen V_y.out.blk 0
          have c_y_1 : w_27.cell? ⟨w_24.heap.size, 1, none⟩ = some (.int .i64 z1) := (blk_cell V_y.out.blk 1).trans rfl
          have f_y_1 : w_27.frozen? ⟨w_24.heap.size, 1, none⟩ = false := blk_frozen V_y.out.blk 1
          have nR := Lib.hid (R.out.below hb_)
          clear R
          have R := nR
          clear nR
          clear hb_
          go_wp2_with fail
          go_ret
          exact ⟨rfl, HB1.out.trans (R.out.h.bel.mono HB1.out.size)⟩
end Go.Proofs.Ytkhlfdcjgooogaa.P
