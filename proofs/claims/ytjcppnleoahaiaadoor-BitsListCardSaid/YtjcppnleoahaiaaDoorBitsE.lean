/- math/bits.OnesCount64 counts the bits of a word. -/
import Derived.Test.YtjcppnleoahaiaaDoorBitsD
import Derived.Laws.Bits128
namespace Go.Proofs.YtjcppnleoahaiaaDoor.P
open Go.RowKit
theorem u64_id (n : Nat) (h : n < 18446744073709551616) : IntKind.u64.wrap (n : Int) = (n : Int) := by rw [IntKind.wrap_u64]; omega
theorem and_u64 (x : Int) (a b : Nat) (h : x = (a : Int)) (ha : a < 18446744073709551616) (hb : b < 18446744073709551616) : bits .and .u64 x (b : Int) = ((a &&& b : Nat) : Int) := by rw [h]; exact bits_and_u64_nat a b ha hb
theorem num_bnd {B : Nat} (hB : 0 < B) (n m : Nat) (d : Nat → Nat) (h : ∀ j, d j < B) (he : B ^ n = m) : num B d n < m := he ▸ num_lt B hB n d h
theorem step1 (b : Nat → Nat) (hb : ∀ j, b j ≤ 1) :
    IntKind.u64.wrap ((bits .and .u64 ((num 2 b 64 : Nat) / 2 : Int) 6148914691236517205) + (bits .and .u64 (num 2 b 64 : Nat) 6148914691236517205)) = (num 4 (fun j => b (2 * j) + b (2 * j + 1)) 32 : Nat) := by
  have hl := num_bnd (B := 2) (by omega) 64 18446744073709551616 b (fun j => by have := hb j; omega) rfl
  have e0 : num 2 b 64 = num 4 (fun j => b (2 * j) + 2 * b (2 * j + 1)) 32 := num_pairs 2 32 b
  have hM : num 4 (fun _ => 1) 32 = 6148914691236517205 := by decide +kernel
  have h1 := num_even 1 32 (fun j => b (2 * j)) (fun j => b (2 * j + 1)) (fun j => by have := hb (2 * j); simp; omega) (fun j => by have := hb (2 * j + 1); simp; omega)
  have h2 := num_odd 1 32 (fun j => b (2 * j)) (fun j => b (2 * j + 1)) (fun j => by have := hb (2 * j); simp; omega) (fun j => by have := hb (2 * j + 1); simp; omega)
  simp only [show (2 : Nat) ^ (1 + 1) = 4 from rfl, show (2 : Nat) ^ 1 = 2 from rfl, show (2 : Nat) - 1 = 1 from rfl] at h1 h2
  rw [hM, ← e0] at h1 h2
  have hlt := num_bnd (B := 4) (by omega) 32 18446744073709551616 (fun j => b (2 * j) + b (2 * j + 1)) (fun j => by have := hb (2 * j); have := hb (2 * j + 1); simp; omega) rfl
  have a1 := and_u64 ((num 2 b 64 : Nat) / 2 : Int) (num 2 b 64 / 2) 6148914691236517205 (by omega) (by omega) (by omega)
  have a2 := and_u64 ((num 2 b 64 : Nat) : Int) (num 2 b 64) 6148914691236517205 rfl (by omega) (by omega)
  have ad := num_add 4 32 (fun j => b (2 * j)) (fun j => b (2 * j + 1))
  rw [h2] at a1
  rw [h1] at a2
  rw [show (6148914691236517205 : Int) = ((6148914691236517205 : Nat) : Int) from rfl, a1, a2, ← Int.natCast_add, Nat.add_comm, ad]
  exact u64_id _ hlt
theorem step2 (b : Nat → Nat) (hb : ∀ j, b j ≤ 2) :
    IntKind.u64.wrap ((bits .and .u64 ((num 4 b 32 : Nat) / 4 : Int) 3689348814741910323) + (bits .and .u64 (num 4 b 32 : Nat) 3689348814741910323)) = (num 16 (fun j => b (2 * j) + b (2 * j + 1)) 16 : Nat) := by
  have hl := num_bnd (B := 4) (by omega) 32 18446744073709551616 b (fun j => by have := hb j; omega) rfl
  have e0 : num 4 b 32 = num 16 (fun j => b (2 * j) + 4 * b (2 * j + 1)) 16 := num_pairs 4 16 b
  have hM : num 16 (fun _ => 3) 16 = 3689348814741910323 := by decide +kernel
  have h1 := num_even 2 16 (fun j => b (2 * j)) (fun j => b (2 * j + 1)) (fun j => by have := hb (2 * j); simp; omega) (fun j => by have := hb (2 * j + 1); simp; omega)
  have h2 := num_odd 2 16 (fun j => b (2 * j)) (fun j => b (2 * j + 1)) (fun j => by have := hb (2 * j); simp; omega) (fun j => by have := hb (2 * j + 1); simp; omega)
  simp only [show (2 : Nat) ^ (2 + 2) = 16 from rfl, show (2 : Nat) ^ 2 = 4 from rfl, show (4 : Nat) - 1 = 3 from rfl] at h1 h2
  rw [hM, ← e0] at h1 h2
  have hlt := num_bnd (B := 16) (by omega) 16 18446744073709551616 (fun j => b (2 * j) + b (2 * j + 1)) (fun j => by have := hb (2 * j); have := hb (2 * j + 1); simp; omega) rfl
  have a1 := and_u64 ((num 4 b 32 : Nat) / 4 : Int) (num 4 b 32 / 4) 3689348814741910323 (by omega) (by omega) (by omega)
  have a2 := and_u64 ((num 4 b 32 : Nat) : Int) (num 4 b 32) 3689348814741910323 rfl (by omega) (by omega)
  have ad := num_add 16 16 (fun j => b (2 * j)) (fun j => b (2 * j + 1))
  rw [h2] at a1
  rw [h1] at a2
  rw [show (3689348814741910323 : Int) = ((3689348814741910323 : Nat) : Int) from rfl, a1, a2, ← Int.natCast_add, Nat.add_comm, ad]
  exact u64_id _ hlt
theorem step3 (b : Nat → Nat) (hb : ∀ j, b j ≤ 4) :
    bits .and .u64 (IntKind.u64.wrap ((num 16 b 16 : Nat) / 16 + (num 16 b 16 : Nat))) 1085102592571150095 = (num 256 (fun j => b (2 * j) + b (2 * j + 1)) 8 : Nat) := by
  have hl : num 16 b 16 < 5534023222112865485 := by
    have h := num_add 16 16 b (fun j => 4 - b j)
    have e : num 16 (fun j => b j + (4 - b j)) 16 = 4919131752989213764 := by
      have : (fun j => b j + (4 - b j)) = fun _ => 4 := by funext j; have := hb j; omega
      rw [this]; decide +kernel
    omega
  have e0 : num 16 b 16 = num 256 (fun j => b (2 * j) + 16 * b (2 * j + 1)) 8 := num_pairs 16 8 b
  have hM : num 256 (fun _ => 15) 8 = 1085102592571150095 := by decide +kernel
  have h1 := num_both 8 (fun j => b (2 * j)) (fun j => b (2 * j + 1)) (fun j => by have := hb (2 * j); omega) (fun j => by have := hb (2 * j + 1); omega)
  rw [hM, ← e0] at h1
  have e1 : ((num 16 b 16 : Nat) / 16 + (num 16 b 16 : Nat) : Int) = ((num 16 b 16 / 16 + num 16 b 16 : Nat) : Int) := by omega
  have h3 := bits_and_u64_nat (num 16 b 16 / 16 + num 16 b 16) 1085102592571150095 (by omega) (by omega)
  rw [e1, u64_id _ (by omega), ← h1]
  exact h3
theorem dv2 (lo hi : Nat) (h : lo < 65536) : ((lo + 65536 * hi : Nat) : Int) / 65536 = (hi : Int) := by omega
theorem dv3 (lo hi : Nat) (h : lo < 4294967296) : ((lo + 4294967296 * hi : Nat) : Int) / 4294967296 = (hi : Int) := by omega
theorem step4 (g : Nat → Nat) (hg : ∀ j, g j ≤ 8) :
    ∃ V1 V2 V3 : Nat, IntKind.u64.wrap ((num 256 g 8 : Nat) + (num 256 g 8 : Nat) / 256) = V1 ∧ IntKind.u64.wrap ((V1 : Int) + (V1 : Int) / 65536) = V2 ∧ IntKind.u64.wrap ((V2 : Int) + (V2 : Int) / 4294967296) = V3 ∧ V3 % 128 = sumN g 8 ∧ V3 < 9223372036854775808 := by
  have e : num 256 g 8 = g 0 + 256 * g 1 + 65536 * g 2 + 16777216 * g 3 + 4294967296 * g 4 + 1099511627776 * g 5 + 281474976710656 * g 6 + 72057594037927936 * g 7 := by simp [num]; omega
  have s : sumN g 8 = g 0 + g 1 + g 2 + g 3 + g 4 + g 5 + g 6 + g 7 := by simp [sumN]
  have h0 := hg 0; have h1 := hg 1; have h2 := hg 2; have h3 := hg 3; have h4 := hg 4; have h5 := hg 5; have h6 := hg 6; have h7 := hg 7
  rw [e, s]
  obtain ⟨a, ha⟩ : ∃ a, a = g 0 := ⟨_, rfl⟩
  generalize g 0 = g0 at *; generalize g 1 = g1 at *; generalize g 2 = g2 at *; generalize g 3 = g3 at *; generalize g 4 = g4 at *; generalize g 5 = g5 at *; generalize g 6 = g6 at *; generalize g 7 = g7 at *
  refine ⟨(g0 + g1) + 256 * (g1 + g2) + 65536 * (g2 + g3) + 16777216 * (g3 + g4) + 4294967296 * (g4 + g5) + 1099511627776 * (g5 + g6) + 281474976710656 * (g6 + g7) + 72057594037927936 * g7,
    (g0 + g1 + g2 + g3) + 256 * (g1 + g2 + g3 + g4) + 65536 * (g2 + g3 + g4 + g5) + 16777216 * (g3 + g4 + g5 + g6) + 4294967296 * (g4 + g5 + g6 + g7) + 1099511627776 * (g5 + g6 + g7) + 281474976710656 * (g6 + g7) + 72057594037927936 * g7,
    (g0 + g1 + g2 + g3 + g4 + g5 + g6 + g7) + 256 * (g1 + g2 + g3 + g4 + g5 + g6 + g7) + 65536 * (g2 + g3 + g4 + g5 + g6 + g7) + 16777216 * (g3 + g4 + g5 + g6 + g7) + 4294967296 * (g4 + g5 + g6 + g7) + 1099511627776 * (g5 + g6 + g7) + 281474976710656 * (g6 + g7) + 72057594037927936 * g7, ?_, ?_, ?_, ?_, ?_⟩
  · rw [IntKind.wrap_u64]; omega
  · have e1 : (g0 + g1) + 256 * (g1 + g2) + 65536 * (g2 + g3) + 16777216 * (g3 + g4) + 4294967296 * (g4 + g5) + 1099511627776 * (g5 + g6) + 281474976710656 * (g6 + g7) + 72057594037927936 * g7
        = ((g0 + g1) + 256 * (g1 + g2)) + 65536 * ((g2 + g3) + 256 * (g3 + g4) + 65536 * (g4 + g5) + 16777216 * (g5 + g6) + 4294967296 * (g6 + g7) + 1099511627776 * g7) := by omega
    rw [e1, dv2 _ _ (by omega), ← Int.natCast_add, u64_id _ (by omega)]
    congr 1
    omega
  · have e1 : (g0 + g1 + g2 + g3) + 256 * (g1 + g2 + g3 + g4) + 65536 * (g2 + g3 + g4 + g5) + 16777216 * (g3 + g4 + g5 + g6) + 4294967296 * (g4 + g5 + g6 + g7) + 1099511627776 * (g5 + g6 + g7) + 281474976710656 * (g6 + g7) + 72057594037927936 * g7
        = ((g0 + g1 + g2 + g3) + 256 * (g1 + g2 + g3 + g4) + 65536 * (g2 + g3 + g4 + g5) + 16777216 * (g3 + g4 + g5 + g6)) + 4294967296 * ((g4 + g5 + g6 + g7) + 256 * (g5 + g6 + g7) + 65536 * (g6 + g7) + 16777216 * g7) := by omega
    rw [e1, dv3 _ _ (by omega), ← Int.natCast_add, u64_id _ (by omega)]
    congr 1
    omega
  · omega
  · omega
theorem cnt_le (f : Nat → Bool) : ∀ n, cnt f n ≤ n
  | 0 => Nat.le_refl _
  | n + 1 => by
    have h := cnt_le f n
    unfold cnt at h ⊢
    rw [sumN]
    have : (f n).toNat ≤ 1 := Bool.toNat_le (f n)
    omega
theorem pop_word (f : Nat → Bool) : bits_OnesCount64.f (wsum f 64 : Nat) = some (cnt f 64 : Int) := by
  have hb : ∀ j, (f j).toNat ≤ 1 := fun j => Bool.toNat_le (f j)
  obtain ⟨b, hbd⟩ : ∃ b : Nat → Nat, b = fun j => (f j).toNat := ⟨_, rfl⟩
  have hb1 : ∀ j, b j ≤ 1 := by intro j; rw [hbd]; exact hb j
  have hw : wsum f 64 = num 2 b 64 := by rw [hbd]; exact wsum_num f 64
  have hc : cnt f 64 = sumN b 64 := by rw [hbd]; rfl
  obtain ⟨d1, h1⟩ : ∃ d, d = fun j => b (2 * j) + b (2 * j + 1) := ⟨_, rfl⟩
  have l1 : ∀ j, d1 j ≤ 2 := by intro j; rw [h1]; have := hb1 (2 * j); have := hb1 (2 * j + 1); simp only; omega
  obtain ⟨d2, h2⟩ : ∃ d, d = fun j => d1 (2 * j) + d1 (2 * j + 1) := ⟨_, rfl⟩
  have l2 : ∀ j, d2 j ≤ 4 := by intro j; rw [h2]; have := l1 (2 * j); have := l1 (2 * j + 1); simp only; omega
  obtain ⟨d3, h3⟩ : ∃ d, d = fun j => d2 (2 * j) + d2 (2 * j + 1) := ⟨_, rfl⟩
  have l3 : ∀ j, d3 j ≤ 8 := by intro j; rw [h3]; have := l2 (2 * j); have := l2 (2 * j + 1); simp only; omega
  have s1 := step1 b hb1
  rw [← h1] at s1
  have s2 := step2 d1 l1
  rw [← h2] at s2
  have s3 := step3 d2 l2
  rw [← h3] at s3
  obtain ⟨V1, V2, V3, s4, s5, s6, s7, s8⟩ := step4 d3 l3
  have es : sumN d3 8 = cnt f 64 := by
    have e3 : sumN d3 8 = sumN d2 16 := by rw [h3]; exact sumN_pairs d2 8
    have e2 : sumN d2 16 = sumN d1 32 := by rw [h2]; exact sumN_pairs d1 16
    have e1 : sumN d1 32 = sumN b 64 := by rw [h1]; exact sumN_pairs b 32
    rw [e3, e2, e1, hc]
  unfold bits_OnesCount64.f
  rw [hw, s1, s2, s3, s4, s5, s6]
  have hw : wrap64 (V3 : Int) = (V3 : Int) := by
    unfold wrap64
    omega
  rw [hw, i64_and127, ← es, ← s7]
  rfl
theorem pop_call (f : Nat → Bool) (w : World) : Calls Tryd.prog 41 #[.int .u64 (wsum f 64 : Nat)] w fun e w' => e = .returned (.int .i64 (cnt f 64 : Nat)) ∧ Below w.heap.size w w' :=
  (bits_OnesCount64.calls _ _ w (pop_word f)).mono fun _ _ h => ⟨h.1, h.2.below⟩
end Go.Proofs.YtjcppnleoahaiaaDoor.P
