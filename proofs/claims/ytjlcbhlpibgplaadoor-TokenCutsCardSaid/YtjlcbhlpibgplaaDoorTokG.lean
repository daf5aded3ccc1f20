/- The examples. -/
import Derived.Test.YtjlcbhlpibgplaaDoorTokF
import Derived.Test.YtjlcbhlpibgplaaDoorPf13
namespace Go.Proofs.YtjlcbhlpibgplaaDoor.P
open Go.RowKit Go.Proofs.YtjlcbhlpibgplaaDoorW.PrintWords Go.Proofs.YtjlcbhlpibgplaaDoorW.PrintLast Go.Proofs.YtjlcbhlpibgplaaDoorW.PrintMore
set_option linter.unusedVariables false
set_option linter.unusedSimpArgs false
theorem cut_to {s : ByteArray} {l : List S30} {n e : Int} (h : cutR s = (l, n, e)) (w : World) (hE : Env w) :
    Calls Tryd.prog 11 #[.string s] w fun e_ w' => ∃ (A : Option Addr) (c : Nat), e_ = .returned (.tuple #[.slice A l.length c, .int .i64 n, .int .i64 e]) ∧ Hid (l.length ≤ c) ∧ Hid (Kd.C k30 w' A l.length l) ∧ Below w.heap.size w w' := by
  refine (cut_is s w hE).mono ?_
  rintro e_ w' ⟨v, rfl, hR, hb⟩
  rw [h] at hR ⊢
  obtain ⟨A, c, rfl, hc, hC⟩ := Kd.R_reads hR
  exact ⟨A, c, rfl, Lib.hid hc, Lib.hid hC, hb⟩
def cellsOf (x : S30) : List Value := [.int .i64 x.f0, .int .i64 x.f1, .int .i64 x.f2, .string x.f3]
theorem flat_len : ∀ xs : List S30, (xs.flatMap cellsOf).length = xs.length * 4
  | [] => rfl
  | x :: xs => by rw [List.flatMap_cons, List.length_append, flat_len xs, List.length_cons]; show 4 + _ = _; omega
theorem flat_at : ∀ (xs : List S30) (j : Nat) (p : S30), xs[j]? = some p → ((xs.flatMap cellsOf).drop (j * 4)).take 4 = cellsOf p
  | [], j, p, h => by simp at h
  | x :: xs, 0, p, h => by
    obtain rfl : x = p := by simpa using h
    rfl
  | x :: xs, j + 1, p, h => by
    have h2 := flat_at xs j p (by simpa using h)
    rw [List.flatMap_cons, show (j + 1) * 4 = 4 + j * 4 by omega, ← List.drop_drop]
    exact h2
theorem reps_k30 (W : World) (base : Nat) (ok : Nat → Prop) (xs : List S30) : Reps (k30.M W base ok) k30.sz xs (xs.flatMap cellsOf) :=
  ⟨flat_len xs, fun j p hj => by
    have h := flat_at xs j p hj
    show k30.M W base ok p (((xs.flatMap cellsOf).drop (j * 4)).take 4)
    rw [h]
    exact k30_mkM W base ok p⟩
theorem lit_C (W : World) (xs : List S30) (hm : xs.length ≤ 9223372036854775807) : Kd.C k30 (W.alloc (.cells (xs.flatMap cellsOf).toArray 30)) (some ⟨W.heap.size, 0, none⟩) xs.length xs := by
  have hrep := reps_k30 W 0 (fun _ => False) xs
  have hR : Kd.R k30 30 (W.alloc (.cells (xs.flatMap cellsOf).toArray 30)) 0 (fun _ => True) (.slice (some ⟨W.heap.size, 0, none⟩) xs.length xs.length) xs := by
    refine ⟨fun _ _ => trivial, xs.flatMap cellsOf, ?_, ?_⟩
    · have h2 := World.ownsRow_lit (base := 0) (e := 30) (size := k30.sz) W (xs.flatMap cellsOf).toArray xs.length (Nat.zero_le _) (by simpa [maxLen] using hm) (by simpa using hrep.1)
      simpa using h2
    · exact hrep.imp_ (fun p c hp => Kd.M_mono k30 (fun k hk => hk.1.elim) (Kd.M_below (Kd.M_bound k30 hp) (below_alloc (Below.refl _ _) _)))
  exact (Kd.R_reads' hR).2.2
def T1 : ByteArray := ⟨#[120, 60, 61, 45, 49, 50, 32, 35, 32, 121]⟩
def L1 : List S30 := [⟨1, 0, 0, ⟨#[120]⟩⟩, ⟨3, 0, 1, ⟨#[60, 61]⟩⟩, ⟨3, 0, 3, ⟨#[45]⟩⟩, ⟨2, 12, 4, ⟨#[49, 50]⟩⟩, ⟨5, 0, 10, ⟨#[]⟩⟩]
set_option maxRecDepth 100000 in
theorem cut1 : cutR ⟨#[120, 60, 61, 45, 49, 50, 32, 35, 32, 121]⟩ = (L1, 0, 0) := by kernel_rfl
set_option maxRecDepth 100000 in
theorem cut2 : cutR ⟨#[97, 32, 49, 98]⟩ = ([], 2, 2) := by kernel_rfl
set_option maxRecDepth 100000 in
theorem cut3 : cutR ⟨#[97, 32, 36]⟩ = ([], 2, 2) := by kernel_rfl
set_option maxRecDepth 100000 in
theorem cut4 : cutR ⟨#[48, 48, 55]⟩ = ([], 0, 2) := by kernel_rfl
set_option maxRecDepth 100000 in
theorem same1 : runnellaw3_same.f 10 L1 L1 = some true := by kernel_rfl
set_option maxRecDepth 100000 in
set_option maxHeartbeats 4000000 in
theorem shown_is (w : World) (hE : Env w) : Calls Tryd.prog 10 #[] w fun e w' => e = .returned (.bool true) ∧ Below w.heap.size w w' := by
  have HE := Lib.hid hE
  clear hE
  go_enter Tryd.func10, Tryd.ntmps10
  go_wp2_with fail
  refine (cut_to cut1 w HE.out).mono ?_
  rintro e_ w1 ⟨A1, c1, rfl, hc1, hC1, hb_⟩
  have HB1 : Hid (Below w.heap.size w w1) := Lib.hid hb_
  clear hb_
  go_wp2_with fail
  refine (cut_to cut2 w1 (HE.out.below HB1.out HE.out.six)).mono ?_
  rintro e_ w2 ⟨A2, c2, rfl, hc2, hC2, hb_⟩
  have HB2 : Hid (Below w.heap.size w w2) := Lib.hid (below_step HB1.out hb_)
  have HC2 : Hid (Kd.C k30 w2 A1 L1.length L1) := Lib.hid (Kd.C_below hC1.out hb_)
  clear hb_ hC1 HB1 hc2 hC2
  go_wp2_with fail
  refine (cut_to cut3 w2 (HE.out.below HB2.out HE.out.six)).mono ?_
  rintro e_ w3 ⟨A3, c3, rfl, hc3, hC3, hb_⟩
  have HB3 : Hid (Below w.heap.size w w3) := Lib.hid (below_step HB2.out hb_)
  have HC3 : Hid (Kd.C k30 w3 A1 L1.length L1) := Lib.hid (Kd.C_below HC2.out hb_)
  clear hb_ HB2 HC2 hc3 hC3
  go_wp2_with fail
  refine (cut_to cut4 w3 (HE.out.below HB3.out HE.out.six)).mono ?_
  rintro e_ w4 ⟨A4, c4, rfl, hc4, hC4, hb_⟩
  have HB4 : Hid (Below w.heap.size w w4) := Lib.hid (below_step HB3.out hb_)
  have HC4 : Hid (Kd.C k30 w4 A1 L1.length L1) := Lib.hid (Kd.C_below HC3.out hb_)
  clear hb_ HB3 HC3 hc4 hC4
  go_wp2_with fail
  refine (runnellaw3_same.calls 10 A1 c1 L1 (some ⟨w4.heap.size, 0, none⟩) 5 L1 true _ (Kd.C_alloc HC4.out _) hc1.out (lit_C w4 L1 (by decide)) (by decide) same1).mono ?_
  rintro e_ w5 ⟨rfl, hd_⟩
  have HB5 : Hid (Below w.heap.size w w5) := Lib.hid (by
    obtain ⟨k_, rfl⟩ := hd_
    exact pw_below_drewN (below_alloc HB4.out _) _)
  clear hd_
  go_wp2_with fail
  go_ret
  exact ⟨rfl, HB5.out⟩
end Go.Proofs.YtjlcbhlpibgplaaDoor.P
