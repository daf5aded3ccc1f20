/- token: only. -/
import Derived.Test.YtjlcbhlpibgplaaDoorTokA
namespace Go.Proofs.YtjlcbhlpibgplaaDoor.P
open Go.RowKit Go.Proofs.YtjlcbhlpibgplaaDoorW.PrintWords Go.Proofs.YtjlcbhlpibgplaaDoorW.PrintLast Go.Proofs.YtjlcbhlpibgplaaDoorW.PrintMore
set_option linter.unusedVariables false
set_option linter.unusedSimpArgs false
set_option maxRecDepth 100000 in
set_option maxHeartbeats 4000000 in
theorem not_any (sm : ByteArray) (c : UInt8) (gs : Nat) (b : Bool) (hb : hasB sm c = !b) (w : World) (hs : w.cell? ⟨gs, 0, none⟩ = some (.string sm)) :
    Calls Tryd.prog 43 #[.int .u8 (c.toNat : Int), .pointer (some ⟨gs, 0, none⟩)] w fun e w' => e = .returned (.bool b) ∧ w = w' := by
  have HB := Lib.hid hb
  clear hb
  go_enter Tryd.func43, Tryd.ntmps43
  go_wp2_with fail
  refine (idx_any sm c _).mono ?_
  rintro e_ w1 ⟨v, rfl, HV, rfl⟩
  have t1 : decide (v < 0) = b := by
    have h := HV.out
    rw [HB.out] at h
    cases b <;> simp at h ⊢ <;> omega
  go_wp2_with fail
  go_ret
  exact ⟨rfl, rfl⟩
/-- Has a text nothing but some bytes? -/
def onlyB (sm s : ByteArray) : Bool := s.data.toList.all (hasB sm)
theorem take_at (s : ByteArray) (k : Nat) (h : k < s.size) : s.data.toList.take (k + 1) = s.data.toList.take k ++ [s[k]] := by
  rw [List.take_succ_eq_append_getElem (by rw [data_len]; exact h), data_at s k h]
/-- What a slice of bytes holds. -/
def BytesAt (w : World) (g : Nat) (s : ByteArray) : Prop := ∀ j (h : j < s.size), w.cell? ⟨g, j, none⟩ = some (.int .u8 (s[j].toNat : Int))
set_option maxRecDepth 100000 in
set_option maxHeartbeats 4000000 in
theorem find_any (sm s : ByteArray) (g c0 gs : Nat) (w : World) (hB : BytesAt w g s) (hs : w.cell? ⟨gs, 0, none⟩ = some (.string sm)) (hsz : s.size ≤ 1000000) :
    Calls Tryd.prog 55 #[.slice (some ⟨g, 0, none⟩) s.size c0, .func (.func 43) #[] #[.pointer (some ⟨gs, 0, none⟩)]] w fun e w' => ∃ v : Int, e = .returned (.int .i64 v) ∧ Hid (decide (0 ≤ v) = !(onlyB sm s)) ∧ w = w' := by
  have HBY := Lib.hid hB
  have hw0 := hs
  clear hB
  go_enter Tryd.func55, Tryd.ntmps55
  go_wp2_with fail
  go_loop [8] (fun k => ∃ k' : Nat, k = .int .i64 k' ∧ k' ≤ s.size ∧ Hid ((s.data.toList.take k').all (hasB sm) = true)) (fun k => s.size - (intOf k).toNat)
  case atStart => exact ⟨0, rfl, Nat.zero_le _, Lib.hid rfl⟩
  case round =>
    obtain ⟨k, rfl, hk, HA⟩ := hrel
    by_cases hlt : k < s.size
    · have hc := HBY.out k hlt
      cases hb : hasB sm s[k] with
      | true =>
        have HB := Lib.hid hb
        clear hb
        go_wp2_with fail
        refine (not_any sm s[k] gs false (by rw [HB.out]; rfl) _ hs).mono ?_
        rintro e_ w1 ⟨rfl, rfl⟩
        go_wp2_with fail
        go_round
        case rel => exact ⟨k + 1, by norm_cast, by omega, Lib.hid (by rw [take_at s k hlt, List.all_append, HA.out, List.all_cons, HB.out]; rfl)⟩
        case measure => first | (simp [intOf]; done) | (simp [intOf]; omega)
      | false =>
        have HB := Lib.hid hb
        clear hb
        go_wp2_with fail
        refine (not_any sm s[k] gs true (by rw [HB.out]; rfl) _ hs).mono ?_
        rintro e_ w1 ⟨rfl, rfl⟩
        go_wp2_with fail
        go_ret
        refine ⟨k, rfl, Lib.hid ?_, rfl⟩
        have h1 : onlyB sm s = false := by
          unfold onlyB
          rw [List.all_eq_false]
          exact ⟨s[k], by rw [← data_at s k hlt]; exact List.getElem_mem _, by rw [HB.out]; simp⟩
        rw [h1]
        simp
    · obtain rfl : k = s.size := by omega
      have hall : onlyB sm s = true := by
        unfold onlyB
        have h := HA.out
        rwa [List.take_of_length_le (by rw [data_len]; exact Nat.le_refl _)] at h
      have HALL := Lib.hid hall
      clear hall
      go_wp2_with fail
      go_ret
      exact ⟨-1, rfl, Lib.hid (by rw [HALL.out]; rfl), rfl⟩
set_option maxRecDepth 100000 in
set_option maxHeartbeats 4000000 in
theorem finds_any (sm s : ByteArray) (g c0 gs : Nat) (w : World) (hB : BytesAt w g s) (hs : w.cell? ⟨gs, 0, none⟩ = some (.string sm)) (hsz : s.size ≤ 1000000) :
    Calls Tryd.prog 42 #[.slice (some ⟨g, 0, none⟩) s.size c0, .func (.func 43) #[] #[.pointer (some ⟨gs, 0, none⟩)]] w fun e w' => e = .returned (.bool (!(onlyB sm s))) ∧ w = w' := by
  have HBY := Lib.hid hB
  have HS := Lib.hid hs
  clear hB hs
  obtain ⟨r, hr⟩ : ∃ r, r = !(onlyB sm s) := ⟨_, rfl⟩
  rw [← hr]
  have HR := Lib.hid hr
  clear hr
  go_enter Tryd.func42, Tryd.ntmps42
  go_wp2_with fail
  refine (find_any sm s g c0 gs _ HBY.out HS.out hsz).mono ?_
  rintro e_ w1 ⟨v, rfl, HV, rfl⟩
  have t1 : decide (0 ≤ v) = r := by rw [HV.out, HR.out]
  go_wp2_with fail
  go_ret
  exact ⟨rfl, rfl⟩
theorem bytes_below {w W : World} (h : Below w.heap.size w W) (e : TypeId) (s : ByteArray) : Below w.heap.size w (Lib.bytesWorld W e s) :=
  ⟨h.os, h.tape, h.output, by rw [Lib.bytesWorld_size]; have := h.size; omega, fun b hb => (Lib.bytesWorld_at_old W e s b (by have := h.size; omega)).trans (h.block b hb)⟩
theorem bytes_at (W : World) (g : Nat) (s : ByteArray) (hg : g = W.heap.size) : BytesAt (Lib.bytesWorld W 5 s) g s := by
  subst hg
  intro j hj
  rw [Lib.bytesWorld_cell W 5 s j hj]
  have h1 : j < s.data.toList.length := by rw [data_len]; exact hj
  simp only [List.getD_eq_getElem?_getD, List.getElem?_eq_getElem h1, Option.getD_some]
  rw [data_at s j hj]
set_option maxRecDepth 100000 in
set_option maxHeartbeats 4000000 in
theorem only_any (sm s : ByteArray) (hsz : s.size ≤ 1000000) (w : World) :
    Calls Tryd.prog 32 #[.string s, .string sm] w fun e w' => e = .returned (.bool (onlyB sm s)) ∧ Below w.heap.size w w' := by
  have hcv := fun (W : World) => Lib.run_convert_string_bytes (P := Tryd.prog) W 9 55 5 s Tryd.underlying9 Tryd.underlying55 Tryd.underlying5
  obtain ⟨r, hr⟩ : ∃ r, r = onlyB sm s := ⟨_, rfl⟩
  rw [← hr]
  have HR := Lib.hid hr
  clear hr
  go_enter Tryd.func32, Tryd.ntmps32
  go_wp2_with fail
  refine (finds_any sm s (w.heap.size + 1) _ w.heap.size _ (bytes_at _ _ s (by simp)) ((Lib.bytesWorld_old _ 5 s _ (by simp)).trans ((blk_cell (heap_alloc_new w (.cells #[.string sm] 9)) 0).trans rfl)) hsz).mono ?_
  rintro e_ w1 ⟨rfl, rfl⟩
  rw [← HR.out]
  go_wp2_with fail
  go_ret
  exact ⟨by simp, bytes_below (below_alloc (Below.refl _ _) _) 5 s⟩
end Go.Proofs.YtjlcbhlpibgplaaDoor.P
