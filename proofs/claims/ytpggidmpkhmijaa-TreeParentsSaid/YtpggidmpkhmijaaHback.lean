/- slices.Backward over ints: what its closure hands to yield. -/
import Derived.Test.YtpggidmpkhmijaaP0
import Derived.Lib.Hide
import Derived.RangeFuncBox
import Derived.RangeFuncFrom
import Derived.RangeFuncLeaves
import Derived.Shelf.Abstract
import Derived.OwnWalkIn
import Derived.TacticsInMore
import Derived.LoopNIn
import Derived.LoopIn
import Derived.Outline
namespace Go.Proofs.Ytpggidmpkhmijaa.P
open Go.RowKit Go.Shelf Go.Proofs.YtpggidmpkhmijaaW.PrintWords Go.Proofs.YtpggidmpkhmijaaW.PrintLast Go.Proofs.YtpggidmpkhmijaaW.PrintMore
set_option linter.unusedVariables false
set_option linter.unusedSimpArgs false
attribute [local go_sem] Oper.semAt_some

theorem add_block (a : Addr) (n : Nat) : (a.add n).block = a.block := by unfold Addr.add; split <;> rfl
/-- The pairs (place, value), from the last to the first. -/
def revp (zs : List Int) : List (Int × Int) := (List.range zs.length).map fun (j : Nat) => ((zs.length : Int) - 1 - (j : Int), rd zs ((zs.length : Int) - 1 - (j : Int)))
theorem revp_length (zs : List Int) : (revp zs).length = zs.length := by simp [revp]
theorem revp_take_succ (zs : List Int) (j : Nat) (h : j < zs.length) : (revp zs).take (j + 1) = (revp zs).take j ++ [((zs.length : Int) - 1 - j, rd zs ((zs.length : Int) - 1 - j))] := by
  rw [List.take_succ_eq_append_getElem (by rw [revp_length]; exact h)]
  simp [revp]
/-- What a round keeps: all blocks below M that are not in T. -/
def KeepT (M : Nat) (T : Nat → Prop) (W W' : World) : Prop := ∀ k, k < M → ¬ T k → W'.heap[k]? = W.heap[k]?
theorem KeepT.refl (M : Nat) (T : Nat → Prop) (W : World) : KeepT M T W W := fun _ _ _ => rfl
theorem KeepT.trans {M : Nat} {T : Nat → Prop} {A B C : World} (h : KeepT M T A B) (k : KeepT M T B C) : KeepT M T A C := fun i hi ht => (k i hi ht).trans (h i hi ht)
theorem KeepT.cell {M : Nat} {T : Nat → Prop} {A B : World} (h : KeepT M T A B) {p : Addr} (hp : p.block < M) (ht : ¬ T p.block) : B.cell? p = A.cell? p := World.cell?_of_block (h _ hp ht)

set_option maxRecDepth 100000 in
set_option maxHeartbeats 2000000 in
theorem back1 (F : Fence) (n : Nat) (h50 : F.fn 50) (hro : F.round = none) (hn : 1 ≤ n) (l Bs M cap : Nat) (T : Nat → Prop) (A : Option Addr) (zs : List Int) (hb : Bs < M) (hbT : ¬ T Bs)
    (hA : 0 < zs.length → ∀ ad, A = some ad → ad.block < M ∧ ¬ T ad.block) (J Jx : List (Int × Int) → World → Prop)
    (hY : ∀ pre x W, J pre W → pre.length < zs.length → YieldAt F (n - 1) Try.prog l #[.int .i64 x.1, .int .i64 x.2] W fun e W' =>
      (e = .returned (.bool true) ∧ J (pre ++ [x]) W' ∧ KeepT M T W W') ∨ (e = .returned (.bool false) ∧ Jx (pre ++ [x]) W'))
    (W : World) (hBs : W.cell? ⟨Bs, 0, none⟩ = some (.slice A zs.length cap)) (hC : Kd.C (Kd.int .i64) W A zs.length zs) (h0 : J [] W) :
    CallsIn F n Try.prog 50 #[.func (.yield l) #[] #[], .pointer (some ⟨Bs, 0, none⟩)] W fun e W' => (∃ v, e = .returned v) ∧
      ((∃ ys, ys = revp zs ∧ J ys W') ∨ (∃ pre, (∃ k, k ≤ zs.length ∧ pre = (revp zs).take k) ∧ Jx pre W')) := by
  have hbnd : zs.length ≤ 9223372036854775807 := hC.2.1
  have HY := Lib.hid hY
  have HC := Aside0.mk hC
  have HA := Lib.hid hA
  clear hY hC hA
  refine callsIn_of_wp Try.func50 rfl h50 ?_ hro
  simp only [Try.ntmps50, List.size_toArray, List.length_cons, List.length_nil, Nat.reduceAdd, Nat.reduceSub, Array.replicate_succ, Array.replicate_zero, List.push_toArray, List.append_toArray, List.nil_append, List.cons_append]
  gi_wp2
  gi_loopw [3] (fun v3 wr => ∃ (j : Nat) (i : Int), v3 = .int .i64 i ∧ Hid (i + j + 1 = zs.length) ∧ -1 ≤ i ∧ i < zs.length ∧ Aside0 (J ((revp zs).take j) wr) ∧ Aside0 (KeepT M T W wr)) (fun v3 _ => (intOf v3 + 1).toNat)
  case atStart => exact ⟨0, (zs.length : Int) - 1, by go_num, by simp [Hid], by omega, by omega, ⟨by simpa using h0⟩, ⟨KeepT.refl _ _ _⟩⟩
  case round =>
    obtain ⟨j, i, rfl, hij, hi1, hi2, HJ, HK⟩ := hrel
    have hBs' : wr.cell? ⟨Bs, 0, none⟩ = some (.slice A zs.length cap) := (HK.out.cell (p := ⟨Bs, 0, none⟩) hb hbT).trans hBs
    by_cases h0i : 0 ≤ i
    · have hjl : j < zs.length := by have := hij; unfold Hid at this; omega
      have hie : ((zs.length : Int) - 1 - j) = i := by have := hij; unfold Hid at this; omega
      obtain ⟨ad, e, hcell⟩ := Kd.at_int HC.out i h0i hi2
      have hcell' : wr.cell? (ad.add i.toNat) = some (.int .i64 (rd zs i)) := (HK.out.cell (p := ad.add i.toNat) (by rw [add_block]; exact (HA (by omega) _ e).1) (by rw [add_block]; exact (HA (by omega) _ e).2)).trans hcell
      have hs := revp_take_succ zs j hjl
      rw [hie] at hs
      have HS := Lib.hid hs
      cases e
      clear hs hie hcell
      obtain ⟨fn, tmps, assign, body, hy, hR⟩ := HY _ (i, rd zs i) wr HJ.out (by rw [List.length_take, revp_length]; omega)
      dsimp only at hy
      gi_wp2
      refine hR.mono ?_
      rintro e W3 (⟨rfl, hJ3, hk3⟩ | ⟨rfl, hJx3⟩)
      · have HJ3 := Aside0.mk hJ3
        have HK3 := Aside0.mk (HK.out.trans hk3)
        clear hJ3 hk3
        gi_wp2
        go_roundw
        case rel => exact ⟨j + 1, i - 1, by go_num, by have := hij; unfold Hid at this ⊢; omega, by omega, by omega, ⟨by rw [HS.out]; exact HJ3.out⟩, HK3⟩
        case measure => simp [intOf]; omega
      · have HJx3 := Aside0.mk hJx3
        clear hJx3
        gi_wp2
        refine bodyPost_ret (results_none rfl _ _ _) rfl ?_
        exact ⟨⟨_, rfl⟩, .inr ⟨_, ⟨j + 1, by omega, HS.out.symm⟩, HJx3.out⟩⟩
    · have hje : j = zs.length := by have := hij; unfold Hid at this; omega
      have HJ' := HJ.out
      rw [hje, show zs.length = (revp zs).length from (revp_length zs).symm, List.take_length] at HJ'
      have HJ2 := Aside0.mk HJ'
      clear HJ' hje
      gi_wp2
      go_end0
      exact ⟨⟨_, rfl⟩, .inl HJ2.out⟩

/-- What slices.Backward hands back, as the law of a range over a function asks it. -/
theorem back_stops (F : Fence) (n : Nat) (h50 : F.fn 50) (hro : F.round = none) (hn : 1 ≤ n) (Bs M cap : Nat) (T : Nat → Prop) (A : Option Addr) (zs : List Int) (w : World) (hBs : Bs < w.heap.size)
    (hb : Bs < M) (hbT : ¬ T Bs) (hA : 0 < zs.length → ∀ ad, A = some ad → ad.block < M ∧ ¬ T ad.block) (hc : w.cell? ⟨Bs, 0, none⟩ = some (.slice A zs.length cap)) (hC : Kd.C (Kd.int .i64) w A zs.length zs) :
    SeqStopsK F n Try.prog 50 #[.pointer (some ⟨Bs, 0, none⟩)] (fun x : Int × Int => #[Value.int .i64 x.1, Value.int .i64 x.2]) (KeepT M T) (fun ys => ys = revp zs) (fun pre => ∃ k, k ≤ zs.length ∧ pre = (revp zs).take k) zs.length w :=
  fun l J Jx W hW _ _ hY h0 => back1 F n h50 hro hn l Bs M cap T A zs hb hbT hA J Jx hY W ((hW.cell (p := ⟨Bs, 0, none⟩) hBs).trans hc) (Kd.C_below hC hW) h0

set_option maxHeartbeats 1000000 in
/-- slices.Backward(s): the slice value is boxed; the function value captures the box. -/
theorem backward_in (F : Fence) (n : Nat) (h36 : F.fn 36) (hro : F.round = none) (a : Option Addr) (len cap : Nat) (w : World) :
    CallsIn F n Try.prog 36 #[.slice a len cap] w fun e w' => e = .returned (.func (.func 50) #[] #[.pointer (some ⟨w.heap.size, 0, none⟩)]) ∧ w' = w.alloc (.cells #[.slice a len cap] 22) := by
  refine callsIn_of_wp Try.func36 rfl h36 ?_ hro
  simp only [Try.ntmps36, List.size_toArray, List.length_cons, List.length_nil, Nat.reduceAdd, Nat.reduceSub, Array.replicate_succ, Array.replicate_zero, List.push_toArray, List.append_toArray, List.nil_append, List.cons_append]
  gi_wp2
  go_ret
  exact ⟨rfl, rfl⟩
end Go.Proofs.Ytpggidmpkhmijaa.P
