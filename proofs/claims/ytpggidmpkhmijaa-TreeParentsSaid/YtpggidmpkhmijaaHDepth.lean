/- tree.Depth: the depth of a sound tree, by its closure that calls itself. -/
import Derived.Test.YtpggidmpkhmijaaPf15
import Derived.Outline
import Derived.Laws.EntriesVeiled
import Derived.Lib.Hide
namespace Go.Proofs.Ytpggidmpkhmijaa.P
open Go.RowKit Go.Proofs.YtpggidmpkhmijaaW.PrintWords Go.Proofs.YtpggidmpkhmijaaW.PrintLast Go.Proofs.YtpggidmpkhmijaaW.PrintMore
attribute [local go_sem] max2_int min2_int max_two min_two max_three min_three max_four min_four
set_option linter.unusedVariables false
set_option linter.unusedSimpArgs false

theorem bcell {W w1 : World} (hb : Below W.heap.size W w1) : (∀ b o, b < W.heap.size → w1.cell? ⟨b, o, none⟩ = W.cell? ⟨b, o, none⟩) ∧ (∀ b o, b < W.heap.size → w1.frozen? ⟨b, o, none⟩ = W.frozen? ⟨b, o, none⟩) :=
  ⟨fun b o h => hb.cell (p := ⟨b, o, none⟩) h, fun b o h => hb.frozen (p := ⟨b, o, none⟩) h⟩
def tree_Depth.kids (deep : Int → Option Int) : List Int → Int → Option Int
  | [], d => some d
  | x :: xs, d => (deep x).bind fun r => tree_Depth.kids deep xs (mx d r)
def tree_Depth.deep : Nat → List S24 → Int → Option Int
  | 0, _, _ => none
  | k + 1, l, p => if 0 ≤ p then (if p < (l.length : Int) then (tree_Depth.kids (tree_Depth.deep k l) (rd_T24 l p).f4 0).bind fun d => some (wrap64 (d + 1)) else none) else none
def tree_Depth.f (k : Nat) (l0_0 : List S24) (a0_1 : Int) : Option Int :=
  (tree_Sound.f l0_0 a0_1).bind fun t => if t = true then tree_Depth.deep k l0_0 a0_1 else some 0

theorem tree_Depth.kids_mono {f g : Int → Option Int} (h : ∀ x, LeO (f x) (g x)) : ∀ xs d, LeO (tree_Depth.kids f xs d) (tree_Depth.kids g xs d)
  | [], d => LeO.refl _
  | x :: xs, d => by
    simp only [tree_Depth.kids]
    refine LeO.bind (h x) (fun r => tree_Depth.kids_mono h xs _)
theorem tree_Depth.deep_mono : ∀ k l p, LeO (tree_Depth.deep k l p) (tree_Depth.deep (k + 1) l p)
  | 0, l, p => by intro r h; simp [tree_Depth.deep] at h
  | k + 1, l, p => by
    rw [tree_Depth.deep, tree_Depth.deep]
    refine LeO.ite (LeO.ite (LeO.bind (tree_Depth.kids_mono (fun x => tree_Depth.deep_mono k l x) _ _) (fun _ => LeO.refl _)) (LeO.refl _)) (LeO.refl _)
theorem tree_Depth.mono : ∀ a0 a1 k, LeO (tree_Depth.f k a0 a1) (tree_Depth.f (k + 1) a0 a1) := by
  intro a0 a1 k
  unfold tree_Depth.f
  refine LeO.bind (LeO.refl _) (fun t => ?_)
  exact LeO.ite (tree_Depth.deep_mono k a0 a1) (LeO.refl _)

set_option maxHeartbeats 800000 in
theorem tree_Depth.deep_calls (Bt Bd : Nat) (A : Option Addr) (c : Nat) (l : List S24) (root : Int) (w : World)
    (hT : w.cell? ⟨Bt, 0, none⟩ = some (.slice A l.length c)) (hD : w.cell? ⟨Bd, 0, none⟩ = some (.func (.func 28) #[] #[.pointer (some ⟨Bt, 0, none⟩), .pointer (some ⟨Bd, 0, none⟩)]))
    (hr : Kd.C k24 w A l.length l) (hc : l.length ≤ c) : ∀ (k : Nat) (p r : Int), tree_Depth.deep k l p = some r →
    Calls Try.prog 28 #[.int .i64 p, .pointer (some ⟨Bt, 0, none⟩), .pointer (some ⟨Bd, 0, none⟩)] w fun e w' => e = .returned (.int .i64 r) ∧ w' = w
  | 0, p, r, h => by simp [tree_Depth.deep] at h
  | k + 1, p, r, h => by
    have IH := Lib.hid (tree_Depth.deep_calls Bt Bd A c l root w hT hD hr hc k)
    have HR := Aside0.mk hr
    have HC := Aside0.mk hc
    clear hr hc
    rw [tree_Depth.deep] at h
    by_cases h0 : 0 ≤ p
    · rw [if_pos h0] at h
      by_cases h1 : p < (l.length : Int)
      · rw [if_pos h1] at h
        obtain ⟨d, hd, hrd⟩ := Option.bind_eq_some_iff.1 h
        clear h
        obtain rfl := Option.some.inj hrd
        clear hrd
        obtain ⟨ad, A4, c4, e, _, _, _, _, hk4, hl4, hC4⟩ := at_T24 HR.out p h0 h1
        cases e
        have hbnd : (rd_T24 l p).f4.length ≤ 9223372036854775807 := hC4.2.1
        have HC4 := Aside0.mk hC4
        have HL4 := Aside0.mk hl4
        clear hC4 hl4
        have HD := Aside0.mk hd
        clear hd
        go_enter Try.func28, Try.ntmps28
        go_wp2
        go_loop [5, 15] (fun v5 v15 => ∃ (i : Nat) (dv : Int), i ≤ (rd_T24 l p).f4.length ∧ v5 = .int .i64 dv ∧ v15 = .int .i64 (i : Int) ∧ Aside0 (tree_Depth.kids (tree_Depth.deep k l) ((rd_T24 l p).f4.drop i) dv = some d)) (fun _ v15 => (rd_T24 l p).f4.length - (intOf v15).toNat)
        case atStart => exact ⟨0, 0, Nat.zero_le _, rfl, rfl, by simpa using HD⟩
        case round =>
          obtain ⟨i, dv, hi, rfl, rfl, HK⟩ := hrel
          by_cases hlt : i < (rd_T24 l p).f4.length
          · have hK := HK.out
            rw [List.drop_eq_getElem_cons hlt, tree_Depth.kids] at hK
            obtain ⟨rx, hx, hK2⟩ := Option.bind_eq_some_iff.1 hK
            clear hK
            have HX := Lib.hid hx
            have HK2 := Aside0.mk hK2
            clear hx hK2 HK
            obtain ⟨ad4, e4, hcell⟩ := Kd.at_int HC4.out (i : Int) (by omega) (by omega)
            cases e4
            have hq : rd (rd_T24 l p).f4 (i : Int) = (rd_T24 l p).f4[i] := by simp [rd, hlt]
            rw [hq, Int.toNat_natCast] at hcell
            clear hq
            go_wp2_with (go_at_call 28; refine (IH.out _ rx HX.out).mono ?_; rintro e w' ⟨rfl, rfl⟩)
            go_round
            case rel => exact ⟨i + 1, mx dv rx, by omega, rfl, by go_num, HK2⟩
            case measure => simp [intOf]; omega
          · have hie : i = (rd_T24 l p).f4.length := by omega
            subst hie
            have hK := HK.out
            rw [List.drop_length, tree_Depth.kids] at hK
            obtain rfl := Option.some.inj hK
            clear hK HK
            go_wp2
            go_ret
            exact ⟨rfl, rfl⟩
      · rw [if_neg h1] at h; cases h
    · rw [if_neg h0] at h; cases h

set_option maxHeartbeats 800000 in
theorem tree_Depth.calls (k : Nat) (A0_0 : Option Addr) (c0_0 : Nat) (l0_0 : List S24) (a0_1 : Int) (r : Int) (w : World) (hr0_0 : Kd.C k24 w A0_0 l0_0.length l0_0) (hc0_0 : l0_0.length ≤ c0_0) (h : tree_Depth.f k l0_0 a0_1 = some r) :
    Calls Try.prog 17 #[.agg #[.slice A0_0 l0_0.length c0_0, .int .i64 a0_1]] w fun e w' => e = .returned (.int .i64 r) ∧ Below w.heap.size w w' := by
  have HR := Aside0.mk hr0_0
  have HC := Aside0.mk hc0_0
  clear hr0_0 hc0_0
  unfold tree_Depth.f at h
  obtain ⟨b, hb, hf⟩ := Option.bind_eq_some_iff.1 h
  clear h
  have HS := Lib.hid hb
  clear hb
  have hu30 := Try.underlying30
  cases b with
  | false =>
    obtain rfl := Option.some.inj hf
    clear hf
    go_enter Try.func17, Try.ntmps17
    go_wp2_with (go_at_call 15; refine (tree_Sound.calls _ _ l0_0 a0_1 false _ (Kd.C_below HR.out ((Below.refl _ _).alloc (Nat.le_refl _) _)) HC.out HS.out).mono ?_; rintro e w' ⟨rfl, hb⟩)
    go_ret
    exact ⟨rfl, ((Below.refl _ _).alloc (Nat.le_refl _) _).trans (hb.mono (by simp))⟩
  | true =>
    have HF := Lib.hid (show tree_Depth.deep k l0_0 a0_1 = some r from hf)
    clear hf
    go_enter Try.func17, Try.ntmps17
    go_wp2_with (go_at_call 15; refine (tree_Sound.calls _ _ l0_0 a0_1 true _ (Kd.C_below HR.out ((Below.refl _ _).alloc (Nat.le_refl _) _)) HC.out HS.out).mono ?_; rintro e w1 ⟨rfl, hb⟩; have e0 : w1.cell? ⟨w.heap.size, 0, none⟩ = some (.slice A0_0 l0_0.length c0_0) := (hb.cell (p := ⟨w.heap.size, 0, none⟩) (by simp)).trans (by go_simp); have e1 : w1.cell? ⟨w.heap.size, 1, none⟩ = some (.int .i64 a0_1) := (hb.cell (p := ⟨w.heap.size, 1, none⟩) (by simp)).trans (by go_simp); have hz1 : w.heap.size < w1.heap.size := by have := hb.size; simp at this; omega)
    refine (tree_Depth.deep_calls w.heap.size w1.heap.size A0_0 c0_0 l0_0 a0_1 _ ?hT ?hD ?hr HC.out k _ r HF.out).mono ?_
    case hT => go_simp
    case hD => go_simp
    case hr => exact Kd.C_below (Kd.C_below HR.out ((Below.refl _ _).alloc (Nat.le_refl _) _)) (((hb.mono (Nat.le_refl _)).alloc hb.size _))
    rintro e w' ⟨rfl, rfl⟩
    go_wp2
    go_ret
    exact ⟨rfl, (((Below.refl _ _).alloc (Nat.le_refl _) _).trans (hb.mono (by simp))).alloc (by omega) _⟩
end Go.Proofs.Ytpggidmpkhmijaa.P
