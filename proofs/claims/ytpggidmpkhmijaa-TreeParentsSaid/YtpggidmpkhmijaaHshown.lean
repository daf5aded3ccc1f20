/- chapter 4's examples: they answer true. -/
import Derived.Test.YtpggidmpkhmijaaPf10
import Derived.Test.YtpggidmpkhmijaaPf18
import Derived.Test.YtpggidmpkhmijaaHDepth
import Derived.Test.YtpggidmpkhmijaaPf23
namespace Go.Proofs.Ytpggidmpkhmijaa.P
open Go.RowKit Go.Proofs.YtpggidmpkhmijaaW.PrintWords Go.Proofs.YtpggidmpkhmijaaW.PrintLast Go.Proofs.YtpggidmpkhmijaaW.PrintMore
set_option linter.unusedVariables false
set_option linter.unusedSimpArgs false

theorem C_lit {α : Type} (d : Kd α) (W : World) (e : Nat) (xs : List α) (cs : List Value) (h : Reps (d.K (W.alloc (.cells cs.toArray e))) d.sz xs cs) (hn : xs.length ≤ 9223372036854775807) :
    d.C (W.alloc (.cells cs.toArray e)) (some ⟨W.heap.size, 0, none⟩) xs.length xs := by
  have h2 := World.ownsRow_lit (base := 0) (e := e) (size := d.sz) W cs.toArray xs.length (Nat.zero_le _) (by simpa [maxLen] using hn) (by simpa using h.1)
  obtain ⟨A, c, he, hr⟩ := own_reads_row (by simpa using h2) h rfl
  cases he
  exact hr
def shT1 : List S24 := [⟨22, 0, 0, ⟨#[120]⟩, []⟩]
def shT2 : List S24 := [⟨22, 0, 0, ⟨#[120]⟩, []⟩, ⟨7, 0, 0, ⟨#[97]⟩, [0]⟩]
def shT3 : List S24 := [⟨22, 0, 0, ⟨#[120]⟩, []⟩, ⟨7, 0, 0, ⟨#[97]⟩, [0]⟩, ⟨6, 0, 0, ⟨#[]⟩, [1]⟩]
theorem sh1 : tree_Over.f 9 22 0 0 ⟨#[120]⟩ [] [] = some (shT1, 0) := by kernel_rfl
theorem sh2 : tree_Over.f 9 7 0 0 ⟨#[97]⟩ [] [⟨shT1, 0⟩] = some (shT2, 1) := by kernel_rfl
theorem sh3 : tree_Over.f 9 6 0 0 ⟨#[]⟩ [] [⟨shT2, 1⟩] = some (shT3, 2) := by kernel_rfl
theorem sh4 : tree_Depth.f 9 shT3 2 = some 3 := by kernel_rfl
theorem sh5 : tree_Parents.f 9 shT3 2 = some [1, 2, -1] := by kernel_rfl
theorem sh6 : runnellaw4_sameInts.f 9 [0] [0] = some true := by kernel_rfl
theorem sh7 : runnellaw4_sameInts.f 9 [1, 2, -1] [1, 2, -1] = some true := by kernel_rfl
def runnellaw4_shown.f : Option Bool := some true

theorem nodeC (W : World) (A : Option Addr) (c : Nat) (xs : List S24) (r : Int) (h : Kd.C k24 W A xs.length xs) (hc : xs.length ≤ c) :
    Kd.C k30 (W.alloc (.cells #[.slice A xs.length c, .int .i64 r] 30)) (some ⟨W.heap.size, 0, none⟩) 1 [(⟨xs, r⟩ : S30)] := by
  have := C_lit k30 W 30 [(⟨xs, r⟩ : S30)] [.slice A xs.length c, .int .i64 r] ?_ (by simp)
  · simpa using this
  · exact Reps.front (k30_mk _ ⟨xs, r⟩ hc (Kd.C_alloc h _)) rfl (Reps.none _ _) rfl

set_option maxRecDepth 100000 in
set_option maxHeartbeats 4000000 in
theorem runnellaw4_shown.calls (r : Bool) (w : World) (h : runnellaw4_shown.f = some r) : Calls Try.prog 8 #[] w fun e w' => e = .returned (.bool r) ∧ Below w.heap.size w w' := by
  obtain rfl := Option.some.inj h
  clear h
  have hu30 := Try.underlying30
  have hu24 := Try.underlying24
  go_enter Try.func8, Try.ntmps8
  go_wp2_with fail
  refine (tree_Over.calls 9 22 0 0 ⟨#[120]⟩ none 0 [] none 0 [] shT1 0 _ (Kd.C_nil _ _) (Nat.le_refl _) (Kd.C_nil _ _) (Nat.le_refl _) sh1).mono ?_
  rintro e w1 ⟨v1, rfl, hS1, hb1⟩
  obtain ⟨A1, c1, rfl, hl1, hC1⟩ := Kd.S_reads hS1
  have HC1 := Aside0.mk hC1
  have HL1 := Aside0.mk hl1
  clear hC1 hl1 hS1
  go_wp2_with fail
  refine (tree_Over.calls 9 7 0 0 ⟨#[97]⟩ none 0 [] _ 1 [⟨shT1, 0⟩] shT2 1 _ (Kd.C_nil _ _) (Nat.le_refl _) ?hn2 (Nat.le_refl _) sh2).mono ?_
  case hn2 => have := nodeC _ A1 c1 shT1 0 (Kd.C_alloc HC1.out (.cells #[.slice A1 shT1.length c1, .int .i64 0] 30)) HL1.out; simpa using this
  rintro e w2 ⟨v2, rfl, hS2, hb2⟩
  obtain ⟨A2, c2, rfl, hl2, hC2⟩ := Kd.S_reads hS2
  have HC2 := Aside0.mk hC2
  have HL2 := Aside0.mk hl2
  clear hC2 hl2 hS2
  go_wp2_with fail
  refine (tree_Over.calls 9 6 0 0 ⟨#[]⟩ none 0 [] _ 1 [⟨shT2, 1⟩] shT3 2 _ (Kd.C_nil _ _) (Nat.le_refl _) ?hn3 (Nat.le_refl _) sh3).mono ?_
  case hn3 => have := nodeC _ A2 c2 shT2 1 (Kd.C_alloc HC2.out (.cells #[.slice A2 shT2.length c2, .int .i64 1] 30)) HL2.out; simpa using this
  rintro e w3 ⟨v3, rfl, hS3, hb3⟩
  obtain ⟨A3, c3, rfl, hl3, hC3⟩ := Kd.S_reads hS3
  have HC3 := Aside0.mk hC3
  have HL3 := Aside0.mk hl3
  clear hC3 hl3 hS3
  -- what the variable a holds, and its second node
  have hz3 : w2.heap.size < w3.heap.size := by have := hb3.size; simp at this; omega
  have ha0 : w3.cell? ⟨w2.heap.size, 0, none⟩ = some (.slice A2 shT2.length c2) := (hb3.cell (p := ⟨w2.heap.size, 0, none⟩) (by simp; omega)).trans (by go_simp)
  have ha1 : w3.cell? ⟨w2.heap.size, 1, none⟩ = some (.int .i64 1) := (hb3.cell (p := ⟨w2.heap.size, 1, none⟩) (by simp; omega)).trans (by go_simp)
  have hC23 : Kd.C k24 w3 A2 shT2.length shT2 := Kd.C_below (Kd.C_alloc (Kd.C_alloc HC2.out _) _) hb3
  obtain ⟨ad, A4, c4, e, k0, k1, k2, k3, k4, hl4, hC4⟩ := at_T24 hC23 1 (by omega) (by decide)
  cases e
  have hlt4 := World.block_lt_of_cell? w3 _ k4
  have k4' : w3.cell? ⟨ad.block, ad.off + 5 + 4, none⟩ = some (.slice A4 (rd_T24 shT2 1).f4.length c4) := by
    rw [show ad.add (Int.toNat 1 * 5) = ⟨ad.block, ad.off + 5, none⟩ from by unfold Addr.add; rfl] at k4
    exact k4
  rw [show ad.add (Int.toNat 1 * 5) = ⟨ad.block, ad.off + 5, none⟩ from by unfold Addr.add; rfl] at hlt4
  have hlt4' : ad.block < w3.heap.size := hlt4
  have HC4 := Aside0.mk hC4
  have HL4 := Aside0.mk hl4
  have HB3 := Aside0.mk hb3
  clear hC4 hl4 hC23 hb3 k0 k1 k2 k3 k4 hlt4
  have e2 : shT2.length = 2 := rfl
  go_wp2_with fail
  refine (runnellaw4_sameInts.calls 9 A4 c4 (rd_T24 shT2 1).f4 _ 1 [0] true _ (Kd.C_alloc (Kd.C_alloc HC4.out _) _) HL4.out ?hs1 (Nat.le_refl _) sh6).mono ?_
  case hs1 =>
    have := C_lit (Kd.int .i64) (w3.alloc (.cells #[.slice A3 shT3.length c3, .int .i64 2] 30)) 3 [0] [.int .i64 0] (Reps.one rfl (Reps.none _ _)) (by simp)
    simpa using this
  rintro e w4 ⟨rfl, ⟨n4, rfl⟩⟩
  -- the variable b
  have hb0 : ((w3.alloc (.cells #[.slice A3 shT3.length c3, .int .i64 2] 30)).alloc (.cells #[.int .i64 0] 3)).cell? ⟨w3.heap.size, 0, none⟩ = some (.slice A3 shT3.length c3) := by go_simp
  go_wp2_with fail
  refine (tree_Depth.calls 9 A3 c3 shT3 2 3 _ (Kd.C_drewN (Kd.C_alloc (Kd.C_alloc HC3.out _) _) _) HL3.out sh4).mono ?_
  rintro e w5 ⟨rfl, hb5⟩
  have hz5 : w3.heap.size + 1 < w5.heap.size := by have := hb5.size; simp at this; omega
  have hc0 : w5.cell? ⟨w3.heap.size, 0, none⟩ = some (.slice A3 shT3.length c3) := (hb5.cell (p := ⟨w3.heap.size, 0, none⟩) (by simp; omega)).trans (by go_simp)
  have hc1 : w5.cell? ⟨w3.heap.size, 1, none⟩ = some (.int .i64 2) := (hb5.cell (p := ⟨w3.heap.size, 1, none⟩) (by simp; omega)).trans (by go_simp)
  have HC5 := Aside0.mk (Kd.C_below (Kd.C_drewN (Kd.C_alloc (Kd.C_alloc HC3.out (.cells #[.slice A3 shT3.length c3, .int .i64 2] 30)) (.cells #[.int .i64 0] 3)) n4) hb5)
  go_wp2_with fail
  refine (tree_Parents.calls 9 A3 c3 shT3 2 [1, 2, -1] _ HC5.out HL3.out sh5).mono ?_
  rintro e w6 ⟨v6, rfl, hR6, hb6⟩
  obtain ⟨A6, c6, rfl, hl6, hC6⟩ := Kd.R_reads hR6
  have HC6 := Aside0.mk hC6
  have HL6 := Aside0.mk hl6
  clear hC6 hl6 hR6
  go_wp2_with fail
  refine (runnellaw4_sameInts.calls 9 A6 c6 [1, 2, -1] _ 3 [1, 2, -1] true _ (Kd.C_alloc HC6.out _) HL6.out ?hs2 (Nat.le_refl _) sh7).mono ?_
  case hs2 =>
    have := C_lit (Kd.int .i64) w6 3 [1, 2, -1] [.int .i64 1, .int .i64 2, .int .i64 (-1)] (Reps.one rfl (Reps.one rfl (Reps.one rfl (Reps.none _ _)))) (by simp)
    simpa using this
  rintro e w7 ⟨rfl, ⟨n7, rfl⟩⟩
  go_wp2
  go_ret
  refine ⟨rfl, pw_below_drewN ?_ _⟩
  have q1 := hb1
  have q2 : Below w.heap.size w w2 := ((q1.alloc q1.size _).alloc (by have := q1.size; simp; omega) _).trans (hb2.mono (by have := q1.size; simp; omega))
  have q3 : Below w.heap.size w w3 := ((q2.alloc q2.size _).alloc (by have := q2.size; simp; omega) _).trans (HB3.out.mono (by have := q2.size; simp; omega))
  have q5 : Below w.heap.size w w5 := (pw_below_drewN ((q3.alloc q3.size _).alloc (by have := q3.size; simp; omega) _) _).trans (hb5.mono (by have := q3.size; simp; omega))
  have q6 : Below w.heap.size w w6 := q5.trans (hb6.mono q5.size)
  exact q6.alloc q6.size _
end Go.Proofs.Ytpggidmpkhmijaa.P
