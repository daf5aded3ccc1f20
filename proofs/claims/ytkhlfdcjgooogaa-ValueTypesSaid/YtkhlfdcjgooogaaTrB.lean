import Derived.Test.YtkhlfdcjgooogaaProg
import Derived.Below
import Derived.Deep.Draws
import Derived.Deep.AppendLies
import Derived.Maps.AppendAt
import Derived.OwnWalk
import Derived.Laws.BytesArg
import Derived.Laws.MakeOwn
import Derived.Laws.OwnMore
import Derived.Deep.OwnRows
import Derived.Tactics
import Derived.Lib.ConvBytes
import Derived.Laws.Slices
import Derived.WalkKit
import Derived.KernelRfl
import Derived.RowKit3
import Derived.Deep.LoopGhost
import Derived.Deep.QuietTactic
import Derived.BigQuiet
import Derived.WideLaws
import Derived.Deep.DeepCutAuto
import Derived.Deep.CutBlock
import Derived.Deep.RegionHeld3
import Derived.Laws.Rows
import Derived.Lib.AppendStr
import Derived.ArgAppend
import Derived.Laws.IdiomCopy
import Derived.OrdersHeld
import Derived.Laws.BitsLemmas
import Derived.RowKit
import Derived.Test.YtkhlfdcjgooogaaWWords
import Derived.Test.YtkhlfdcjgooogaaWMore
import Derived.Laws.StructEq
import Derived.Shelf.Small.Strs
import Derived.Shelf.Strings.Search1
import Derived.Shelf.Strings.Search2
import Derived.Shelf.Strings.Search3
import Derived.Shelf.LaysM
import Derived.Shelf.Strings.Shaped
import Derived.Lib.IndexAny
import Derived.Lib.Hide
import Derived.Outline
import Derived.LoopTactic
import Derived.WalkSmall
set_option linter.unusedVariables false
set_option linter.unusedSimpArgs false
namespace Go.Proofs.Ytkhlfdcjgooogaa.P
open Go.RowKit Go.Proofs.YtkhlfdcjgooogaaW.PrintWords Go.Proofs.YtkhlfdcjgooogaaW.PrintLast Go.Proofs.YtkhlfdcjgooogaaW.PrintMore
attribute [local go_sem] max2_int min2_int max_two min_two max_three min_three max_four min_four
def errW : Option Int → Value
 | none => .nilIface
 | some c => .iface 0 (.int .i64 c)
theorem errW_none : errW none = .nilIface := rfl
theorem errW_some (c : Int) : errW (some c) = .iface 0 (.int .i64 c) := rfl
theorem info3 : (Try.prog.info? 3).map (fun i => (i.zero, i.size, i.bytes)) = some (some (.int .i64 0), 1, 8) := by kernel_rfl
structure S101 where
 f0 : Int
 f1 : Int
 f2 : Int
 f3 : ByteArray
 f4 : (List Int)
def z101 : S101 := ⟨(0 : Int), (0 : Int), (0 : Int), (⟨#[]⟩ : ByteArray), ([] : List Int)⟩
def k101 : Kd S101 := Kd.iso (Kd.pair (Kd.int .i64) (Kd.pair (Kd.int .i64) (Kd.pair (Kd.int .i64) (Kd.pair Kd.string (Kd.slice 3 (Kd.int .i64)))))) (fun x : S101 => (x.f0, x.f1, x.f2, x.f3, x.f4))
theorem k101_open {w : World} {x : S101} {cs : List Value} (h : k101.K w x cs) : ∃ A4 c4, cs = [.int .i64 x.f0, .int .i64 x.f1, .int .i64 x.f2, .string x.f3, .slice A4 x.f4.length c4] ∧ x.f4.length ≤ c4 ∧ (Kd.int .i64).C w A4 x.f4.length x.f4 := by
 obtain ⟨_, _, rfl, rfl, ⟨_, _, rfl, rfl, ⟨_, _, rfl, rfl, ⟨_, _, rfl, rfl, ⟨A4, c4, rfl, l4, g4⟩⟩⟩⟩⟩ := h
 exact ⟨A4, c4, rfl, l4, g4⟩
def rd_T101 (xs : List S101) (i : Int) : S101 := xs.getD i.toNat z101
theorem at_T101 {w : World} {A : Option Addr} {n : Nat} {xs : List S101} (h : Kd.C k101 w A n xs) (i : Int) (h0 : 0 ≤ i) (h1 : i < n) : ∃ ad A4 c4, A = some ad ∧ w.cell? (ad.add (i.toNat * 5)) = some (.int .i64 (rd_T101 xs i).f0) ∧ w.cell? ⟨(ad.add (i.toNat * 5)).block, (ad.add (i.toNat * 5)).off + 1, none⟩ = some (.int .i64 (rd_T101 xs i).f1) ∧ w.cell? ⟨(ad.add (i.toNat * 5)).block, (ad.add (i.toNat * 5)).off + 2, none⟩ = some (.int .i64 (rd_T101 xs i).f2) ∧ w.cell? ⟨(ad.add (i.toNat * 5)).block, (ad.add (i.toNat * 5)).off + 3, none⟩ = some (.string (rd_T101 xs i).f3) ∧ w.cell? ⟨(ad.add (i.toNat * 5)).block, (ad.add (i.toNat * 5)).off + 4, none⟩ = some (.slice A4 (rd_T101 xs i).f4.length c4) ∧ (rd_T101 xs i).f4.length ≤ c4 ∧ (Kd.int .i64).C w A4 (rd_T101 xs i).f4.length (rd_T101 xs i).f4 := by
 obtain ⟨ad, c, e, _, hK, hc0⟩ := Kd.C_get h z101 i h0 h1
 have hc : ∀ j u, c[j]? = some u → w.cell? (ad.add (i.toNat * 5 + j)) = some u := hc0
 obtain ⟨A4, c4, rfl, l4, g4⟩ := k101_open hK
 exact ⟨ad, A4, c4, e, hc 0 _ rfl, by rw [← add_field _ _ 1 (by omega)]; exact hc 1 _ rfl, by rw [← add_field _ _ 2 (by omega)]; exact hc 2 _ rfl, by rw [← add_field _ _ 3 (by omega)]; exact hc 3 _ rfl, by rw [← add_field _ _ 4 (by omega)]; exact hc 4 _ rfl, l4, g4⟩
structure S69 where
 f0 : (List S101)
 f1 : Int
def k69 : Kd S69 := Kd.iso (Kd.pair (Kd.slice 101 k101) (Kd.int .i64)) (fun x : S69 => (x.f0, x.f1))
theorem k69_open {w : World} {x : S69} {cs : List Value} (h : k69.K w x cs) : ∃ A0 c0, cs = [.slice A0 x.f0.length c0, .int .i64 x.f1] ∧ x.f0.length ≤ c0 ∧ k101.C w A0 x.f0.length x.f0 := by
 obtain ⟨_, _, rfl, ⟨A0, c0, rfl, l0, g0⟩, rfl⟩ := h
 exact ⟨A0, c0, rfl, l0, g0⟩
end Go.Proofs.Ytkhlfdcjgooogaa.P
namespace Go.Proofs
open Go.Shelf
def Try.lays137_ren : Go.Shelf.Ren := ⟨fun | 137 => 92 | 217 => 110 | 266 => 116 | n => n, fun | 9 => 9 | 5 => 5 | 3 => 3 | n => n, fun | n => n⟩
theorem Try.lays137 : Go.Proofs.Lays.n137 Try.prog Try.lays137_ren := {
 mixed := by kernel_rfl
 f137 := Try.func92.trans (congrArg some (by kernel_rfl))
 f217 := Try.func110.trans (congrArg some (by kernel_rfl))
 f266 := Try.func116.trans (congrArg some (by kernel_rfl))
 t3 := Try.underlying3
 a3 := Try.isAgg3
 z3 := Try.sizeOf3
 v3 := Try.zeroValue3
 t5 := Try.underlying5
 a5 := Try.isAgg5
 z5 := Try.sizeOf5
 v5 := Try.zeroValue5
 t9 := Try.underlying9
 a9 := Try.isAgg9
 z9 := Try.sizeOf9
 v9 := Try.zeroValue9 }
open Go.RowKit in
theorem Try.strings_IndexByte (s : ByteArray) (c : Int) (w : World) :
  Calls Try.prog 92 #[.string s, .int .u8 c] w fun e w' => e = .returned (.int .i64 (Lib.indexByte s.data.toList c.toNat.toUInt8)) ∧ w' = w := Any.strings_IndexByte Try.lays137 s c w
def Try.lays144_ren : Go.Shelf.Ren := ⟨fun | 144 => 93 | 143 => 111 | 219 => 117 | 217 => 110 | 225 => 119 | 224 => 120 | 267 => 121 | 266 => 116 | 314 => 122 | n => n, fun | 9 => 9 | 4 => 4 | 3 => 3 | 5 => 5 | 46 => 164 | 146 => 166 | 51 => 165 | n => n, fun | 1 => 0 | n => n⟩
theorem Try.lays144 : Go.Proofs.Lays.n144 Try.prog Try.lays144_ren := {
 mixed := by kernel_rfl
 f143 := Try.func111.trans (congrArg some (by kernel_rfl))
 f144 := Try.func93.trans (congrArg some (by kernel_rfl))
 f217 := Try.func110.trans (congrArg some (by kernel_rfl))
 f219 := Try.func117.trans (congrArg some (by kernel_rfl))
 f224 := Try.func120.trans (congrArg some (by kernel_rfl))
 f225 := Try.func119.trans (congrArg some (by kernel_rfl))
 f266 := Try.func116.trans (congrArg some (by kernel_rfl))
 f267 := Try.func121.trans (congrArg some (by kernel_rfl))
 f314 := Try.func122.trans (congrArg some (by kernel_rfl))
 t3 := Try.underlying3
 a3 := Try.isAgg3
 z3 := Try.sizeOf3
 v3 := Try.zeroValue3
 t4 := Try.underlying4
 a4 := Try.isAgg4
 z4 := Try.sizeOf4
 v4 := Try.zeroValue4
 t5 := Try.underlying5
 a5 := Try.isAgg5
 z5 := Try.sizeOf5
 v5 := Try.zeroValue5
 t9 := Try.underlying9
 a9 := Try.isAgg9
 z9 := Try.sizeOf9
 v9 := Try.zeroValue9
 t46 := Try.underlying164
 a46 := Try.isAgg164
 z46 := Try.sizeOf164
 v46 := Try.zeroValue164
 t51 := Try.underlying165
 a51 := Try.isAgg165
 z51 := Try.sizeOf165
 v51 := Try.zeroValue165
 t146 := Try.underlying166
 a146 := Try.isAgg166
 z146 := Try.sizeOf166
 v146 := Try.zeroValue166
 g1 := by kernel_rfl }
open Go.RowKit Go.Lib in
theorem Try.strings_Contains (s sub : ByteArray) (m : Int) (w : World) (hs : s.size < 4294967281) (hm : w.cell? ⟨0, 0, none⟩ = some (.int .i64 m)) :
  Calls Try.prog 93 #[.string s, .string sub] w fun e w' => e = .returned (.bool (Lib.contains s.data.toList sub.data.toList)) ∧ w' = w := Any.strings_Contains Try.lays144 s sub m w hs hm
end Go.Proofs
namespace Go.Proofs.Ytkhlfdcjgooogaa.P
open Go.RowKit Go.Proofs.YtkhlfdcjgooogaaW.PrintWords Go.Proofs.YtkhlfdcjgooogaaW.PrintLast Go.Proofs.YtkhlfdcjgooogaaW.PrintMore
def hasB (sm : ByteArray) (c : UInt8) : Bool := sm.data.toList.contains c
theorem byte_back (c : UInt8) : ((c.toNat : Int)).toNat.toUInt8 = c := by
 rw [Int.toNat_natCast]
 exact UInt8.ofNat_toNat
theorem idx_any (sm : ByteArray) (c : UInt8) (w : World) : Calls Try.prog 92 #[.string sm, .int .u8 (c.toNat : Int)] w fun e w' => ∃ v : Int, e = .returned (.int .i64 v) ∧ Hid (decide (0 ≤ v) = hasB sm c) ∧ w = w' :=
 (Try.strings_IndexByte sm (c.toNat : Int) w).mono fun e w' ⟨he, hw⟩ => ⟨_, he, Lib.hid (by rw [byte_back, hasB, ← Lib.contains_iff_indexByte]), hw.symm⟩
theorem data_len (s : ByteArray) : s.data.toList.length = s.size := by rw [Array.length_toList]; rfl
theorem data_at (s : ByteArray) (i : Nat) (h : i < s.size) : s.data.toList[i]'(by rw [data_len]; exact h) = s[i] := by simp [ByteArray.getElem_eq_getElem_data]
set_option maxRecDepth 100000 in
set_option maxHeartbeats 4000000 in
theorem not_any (sm : ByteArray) (c : UInt8) (gs : Nat) (b : Bool) (hb : hasB sm c = !b) (w : World) (hs : w.cell? ⟨gs, 0, none⟩ = some (.string sm)) :
  Calls Try.prog 115 #[.int .u8 (c.toNat : Int), .pointer (some ⟨gs, 0, none⟩)] w fun e w' => e = .returned (.bool b) ∧ w = w' := by
 have HB := Lib.hid hb
 clear hb
 go_enter Try.func115, Try.ntmps115
 go_wp2_with fail
 refine (idx_any sm c _).mono ?_
 rintro e_ w1 ⟨v, rfl, HV, rfl⟩
 have t1 : decide (v < 0) = b := by
  have h := HV.out
  rw [HB.out] at h
  cases b <;> simp at h ⊢ <;> omega
 go_wp2_with fail
 go_ret
 exact ⟨rfl, rfl⟩
def onlyB (sm s : ByteArray) : Bool := s.data.toList.all (hasB sm)
theorem take_at (s : ByteArray) (k : Nat) (h : k < s.size) : s.data.toList.take (k + 1) = s.data.toList.take k ++ [s[k]] := by
 rw [List.take_succ_eq_append_getElem (by rw [data_len]; exact h), data_at s k h]
def BytesAt (w : World) (g : Nat) (s : ByteArray) : Prop := ∀ j (h : j < s.size), w.cell? ⟨g, j, none⟩ = some (.int .u8 (s[j].toNat : Int))
set_option maxRecDepth 100000 in
set_option maxHeartbeats 4000000 in
theorem find_any (sm s : ByteArray) (g c0 gs : Nat) (w : World) (hB : BytesAt w g s) (hs : w.cell? ⟨gs, 0, none⟩ = some (.string sm)) (hsz : s.size ≤ 140737488351232) :
  Calls Try.prog 118 #[.slice (some ⟨g, 0, none⟩) s.size c0, .func (.func 115) #[] #[.pointer (some ⟨gs, 0, none⟩)]] w fun e w' => ∃ v : Int, e = .returned (.int .i64 v) ∧ Hid (decide (0 ≤ v) = !(onlyB sm s)) ∧ w = w' := by
 have HBY := Lib.hid hB
 have hw0 := hs
 clear hB
 go_enter Try.func118, Try.ntmps118
 go_wp2_with fail
 go_loop [8] (fun k => ∃ k' : Nat, k = .int .i64 k' ∧ k' ≤ s.size ∧ Hid ((s.data.toList.take k').all (hasB sm) = true)) (fun k => s.size - (intOf k).toNat)
 case atStart => exact ⟨0, rfl, Nat.zero_le _, Lib.hid rfl⟩
 case round =>
  obtain ⟨k, rfl, hk, HA⟩ := hrel
  by_cases hlt : k < s.size
  ·have hc := HBY.out k hlt
   cases hb : hasB sm s[k] with
   | true =>
    have HB := Lib.hid hb
    clear hb
    go_wp2_with fail
    refine (not_any sm s[k] gs false (by rw [HB.out]; rfl) _ hs).mono ?_
    rintro e_ w1 ⟨rfl, rfl⟩
    go_wp2_with fail
    go_round
    case rel => exact ⟨k + 1, by norm_cast, by omega, Lib.hid (by rw [take_at s k hlt, List.all_append, HA.out, List.all_cons, HB.out]; rfl)⟩
    case measure => first | (simp [intOf]; done) | (simp [intOf]; omega)
   | false =>
    have HB := Lib.hid hb
    clear hb
    go_wp2_with fail
    refine (not_any sm s[k] gs true (by rw [HB.out]; rfl) _ hs).mono ?_
    rintro e_ w1 ⟨rfl, rfl⟩
    go_wp2_with fail
    go_ret
    refine ⟨k, rfl, Lib.hid ?_, rfl⟩
    have h1 : onlyB sm s = false := by
     unfold onlyB
     rw [List.all_eq_false]
     exact ⟨s[k], by rw [← data_at s k hlt]; exact List.getElem_mem _, by rw [HB.out]; simp⟩
    rw [h1]
    simp
  ·obtain rfl : k = s.size := by omega
   have hall : onlyB sm s = true := by
    unfold onlyB
    have h := HA.out
    rwa [List.take_of_length_le (by rw [data_len]; exact Nat.le_refl _)] at h
   have HALL := Lib.hid hall
   clear hall
   go_wp2_with fail
   go_ret
   exact ⟨-1, rfl, Lib.hid (by rw [HALL.out]; rfl), rfl⟩
set_option maxRecDepth 100000 in
set_option maxHeartbeats 4000000 in
theorem finds_any (sm s : ByteArray) (g c0 gs : Nat) (w : World) (hB : BytesAt w g s) (hs : w.cell? ⟨gs, 0, none⟩ = some (.string sm)) (hsz : s.size ≤ 140737488351232) :
  Calls Try.prog 114 #[.slice (some ⟨g, 0, none⟩) s.size c0, .func (.func 115) #[] #[.pointer (some ⟨gs, 0, none⟩)]] w fun e w' => e = .returned (.bool (!(onlyB sm s))) ∧ w = w' := by
 have HBY := Lib.hid hB
 have HS := Lib.hid hs
 clear hB hs
 obtain ⟨r, hr⟩ : ∃ r, r = !(onlyB sm s) := ⟨_, rfl⟩
 rw [← hr]
 have HR := Lib.hid hr
 clear hr
 go_enter Try.func114, Try.ntmps114
 go_wp2_with fail
 refine (find_any sm s g c0 gs _ HBY.out HS.out hsz).mono ?_
 rintro e_ w1 ⟨v, rfl, HV, rfl⟩
 have t1 : decide (0 ≤ v) = r := by rw [HV.out, HR.out]
 go_wp2_with fail
 go_ret
 exact ⟨rfl, rfl⟩
theorem bytes_below {w W : World} (h : Below w.heap.size w W) (e : TypeId) (s : ByteArray) : Below w.heap.size w (Lib.bytesWorld W e s) :=
 ⟨h.os, h.tape, h.output, by rw [Lib.bytesWorld_size]; have := h.size; omega, fun b hb => (Lib.bytesWorld_at_old W e s b (by have := h.size; omega)).trans (h.block b hb)⟩
theorem bytes_at (W : World) (g : Nat) (s : ByteArray) (hg : g = W.heap.size) : BytesAt (Lib.bytesWorld W 5 s) g s := by
 subst hg
 intro j hj
 rw [Lib.bytesWorld_cell W 5 s j hj]
 have h1 : j < s.data.toList.length := by rw [data_len]; exact hj
 simp only [List.getD_eq_getElem?_getD, List.getElem?_eq_getElem h1, Option.getD_some]
 rw [data_at s j hj]
set_option maxRecDepth 100000 in
set_option maxHeartbeats 4000000 in
theorem only_any (sm s : ByteArray) (hsz : s.size ≤ 140737488351232) (w : World) :
  Calls Try.prog 108 #[.string s, .string sm] w fun e w' => e = .returned (.bool (onlyB sm s)) ∧ Below w.heap.size w w' := by
 have hcv := fun (W : World) => Lib.run_convert_string_bytes (P := Try.prog) W 9 161 5 s Try.underlying9 Try.underlying161 Try.underlying5
 obtain ⟨r, hr⟩ : ∃ r, r = onlyB sm s := ⟨_, rfl⟩
 rw [← hr]
 have HR := Lib.hid hr
 clear hr
 go_enter Try.func108, Try.ntmps108
 go_wp2_with fail
 refine (finds_any sm s (w.heap.size + 1) _ w.heap.size _ (bytes_at _ _ s (by simp)) ((Lib.bytesWorld_old _ 5 s _ (by simp)).trans ((blk_cell (heap_alloc_new w (.cells #[.string sm] 9)) 0).trans rfl)) hsz).mono ?_
 rintro e_ w1 ⟨rfl, rfl⟩
 rw [← HR.out]
 go_wp2_with fail
 go_ret
 exact ⟨by simp, bytes_below (below_alloc (Below.refl _ _) _) 5 s⟩
def Env (w : World) : Prop := (∃ m, w.cell? ⟨0, 0, none⟩ = some (.int .i64 m)) ∧ 1 ≤ w.heap.size
theorem Env.below {w w' : World} (h : Env w) {n : Nat} (hb : Below n w w') (hn : 1 ≤ n) : Env w' := by
 obtain ⟨⟨m, h0⟩, h4⟩ := h
 exact ⟨⟨m, (hb.cell (p := ⟨0, 0, none⟩) (by show 0 < n; omega)).trans h0⟩, Nat.le_trans h4 hb.size⟩
theorem Env.six {w : World} (h : Env w) : 1 ≤ w.heap.size := h.2
theorem contains_any (s sub : ByteArray) (hs : s.size < 4294967281) (w : World) (hE : Env w) : Calls Try.prog 93 #[.string s, .string sub] w fun e w' => e = .returned (.bool (Lib.contains s.data.toList sub.data.toList)) ∧ w = w' := by
 obtain ⟨m, hm⟩ := hE.1
 exact (Try.strings_Contains s sub m w hs hm).mono fun e w' ⟨he, hw⟩ => ⟨he, hw.symm⟩
theorem toList_nil (s : ByteArray) (h : s.size = 0) : s.toList = [] := by
 have e : s = ByteArray.empty := by
  apply ByteArray.ext
  exact Array.eq_empty_of_size_eq_zero h
 rw [e]
 exact ByteArray.toList_empty
theorem toList_ne (a : ByteArray) (h : 0 < a.size) : a.toList ≠ [] := by
 unfold ByteArray.toList ByteArray.toList.loop
 rw [if_pos h]
 have : ∀ n i r, r ≠ [] → a.size - i = n → ByteArray.toList.loop a i r ≠ [] := by
  intro n
  induction n with
  | zero => intro i r hr hi; unfold ByteArray.toList.loop; rw [if_neg (by omega)]; simpa using hr
  | succ n ih => intro i r hr hi; unfold ByteArray.toList.loop; split; exact ih _ _ (by simp) (by omega); simpa using hr
 exact this _ _ _ (by simp) rfl
def keptText : ByteArray := ⟨#[32, 118, 97, 114, 32, 112, 114, 111, 99, 32, 105, 110, 116, 32, 98, 111, 111, 108, 32, 97, 114, 114, 32, 102, 117, 110, 32, 105, 110, 32, 111, 117, 116, 32, 105, 102, 32, 101, 108, 115, 101, 32, 119, 104, 105, 108, 101, 32, 99, 97, 108, 108, 32, 114, 101, 116, 117, 114, 110, 32, 116, 104, 114, 111, 119, 32, 116, 114, 121, 32, 99, 97, 116, 99, 104, 32, 110, 101, 119, 32, 108, 101, 110, 32, 116, 114, 117, 101, 32, 102, 97, 108, 115, 101, 32]⟩
def digitsT : ByteArray := ⟨#[48, 49, 50, 51, 52, 53, 54, 55, 56, 57]⟩
def partsT : ByteArray := ⟨#[97, 98, 99, 100, 101, 102, 103, 104, 105, 106, 107, 108, 109, 110, 111, 112, 113, 114, 115, 116, 117, 118, 119, 120, 121, 122, 65, 66, 67, 68, 69, 70, 71, 72, 73, 74, 75, 76, 77, 78, 79, 80, 81, 82, 83, 84, 85, 86, 87, 88, 89, 90, 95, 48, 49, 50, 51, 52, 53, 54, 55, 56, 57]⟩
def spaced (s : ByteArray) : ByteArray := ⟨#[32]⟩ ++ s ++ ⟨#[32]⟩
def keptB (s : ByteArray) : Bool := decide (s.size ≠ 0) && !hasB s 32 && Lib.contains keptText.data.toList (spaced s).data.toList
theorem idx_32 (s : ByteArray) (w : World) : Calls Try.prog 92 #[.string s, .int .u8 32] w fun e w' => ∃ v : Int, e = .returned (.int .i64 v) ∧ Hid (decide (v < 0) = !hasB s 32) ∧ w = w' :=
 (idx_any s 32 w).mono fun e w' ⟨v, he, hv, hw⟩ => ⟨v, he, Lib.hid (by
  rw [← hv.out, Bool.eq_iff_iff]; simp), hw⟩
theorem idx_not (sm : ByteArray) (c : UInt8) (w : World) : Calls Try.prog 92 #[.string sm, .int .u8 (c.toNat : Int)] w fun e w' => ∃ v : Int, e = .returned (.int .i64 v) ∧ Hid (decide (v < 0) = !hasB sm c) ∧ w = w' :=
 (idx_any sm c w).mono fun e w' ⟨v, he, hv, hw⟩ => ⟨v, he, Lib.hid (by
  rw [← hv.out, Bool.eq_iff_iff]; simp), hw⟩
set_option maxRecDepth 100000 in
set_option maxHeartbeats 4000000 in
theorem kept_is (s : ByteArray) (r : Bool) (hr : keptB s = r) (hsz : s.size ≤ 140737488351232) (w : World) (hE : Env w) :
  Calls Try.prog 109 #[.string s] w fun e w' => e = .returned (.bool r) ∧ w = w' := by
 have HE := Lib.hid hE
 have HR := Lib.hid hr
 clear hE hr
 by_cases h0 : s.size = 0
 ·have h1 := toList_nil s h0
  have HF : Hid (false = r) := Lib.hid (by rw [← HR.out]; simp [keptB, h0])
  clear h0
  go_enter Try.func109, Try.ntmps109
  go_wp2_with fail
  go_ret
  exact ⟨by rw [← HF.out]; rfl, rfl⟩
 ·have h1 := toList_ne s (by omega)
  have h2 : s.toList.isEmpty = false := by simpa using h1
  cases hb : hasB s 32 with
  | true =>
   have HF : Hid (false = r) := Lib.hid (by rw [← HR.out]; simp [keptB, hb])
   have HB := Lib.hid hb
   clear hb
   go_enter Try.func109, Try.ntmps109
   go_wp2_with fail
   refine (idx_32 s _).mono ?_
   rintro e_ w1 ⟨v, rfl, HV, rfl⟩
   have t1 : decide (v < 0) = false := by rw [HV.out, HB.out]; rfl
   go_wp2_with fail
   go_ret
   exact ⟨by rw [← HF.out]; rfl, rfl⟩
  | false =>
   have HF : Hid (Lib.contains keptText.data.toList (spaced s).data.toList = r) := Lib.hid (by rw [← HR.out]; simp [keptB, hb, h0])
   have HB := Lib.hid hb
   clear hb
   go_enter Try.func109, Try.ntmps109
   go_wp2_with fail
   refine (idx_32 s _).mono ?_
   rintro e_ w1 ⟨v, rfl, HV, rfl⟩
   have t1 : decide (v < 0) = true := by rw [HV.out, HB.out]; rfl
   go_wp2_with fail
   refine (contains_any keptText (spaced s) (by decide) _ HE.out).mono ?_
   rintro e_ w1 ⟨rfl, rfl⟩
   rw [HF.out]
   go_wp2_with fail
   go_ret
   exact ⟨rfl, rfl⟩
def identB (s : ByteArray) : Bool := decide (s.size ≠ 0) && decide (s.size ≤ 20) && onlyB partsT s && !hasB digitsT (s.data.getD 0 0) && !keptB s
theorem first_at (s : ByteArray) (h : 0 < s.size) : s[0] = s.data.getD 0 0 := by
 have h2 : 0 < s.data.size := h
 rw [ByteArray.getElem_eq_getElem_data, Array.getD_eq_getD_getElem?, Array.getElem?_eq_getElem h2]
 rfl
set_option maxRecDepth 100000 in
set_option maxHeartbeats 8000000 in
theorem ident_is (s : ByteArray) (r : Bool) (hr : identB s = r) (hsz : s.size ≤ 140737488351232) (w : World) (hE : Env w) :
  Calls Try.prog 91 #[.string s] w fun e w' => e = .returned (.bool r) ∧ Below w.heap.size w w' := by
 have HE := Lib.hid hE
 have HR := Lib.hid hr
 clear hE hr
 by_cases h0 : s.size = 0
 ·have h1 := toList_nil s h0
  have HF : Hid (false = r) := Lib.hid (by rw [← HR.out]; simp [identB, h0])
  clear h0
  go_enter Try.func91, Try.ntmps91
  go_wp2_with fail
  go_ret
  exact ⟨by rw [← HF.out]; rfl, Below.refl _ _⟩
 ·have h1 := toList_ne s (by omega)
  have h2 : s.toList.isEmpty = false := by simpa using h1
  have hpos : 0 < s.size := by omega
  by_cases h20 : s.size ≤ 20
  ·have t1 : decide ((s.size : Int) ≤ 20) = true := decide_eq_true (by omega)
   cases ho : onlyB partsT s with
   | false =>
    have HF : Hid (false = r) := Lib.hid (by rw [← HR.out]; simp [identB, ho])
    have HO := Lib.hid ho
    clear ho
    go_enter Try.func91, Try.ntmps91
    go_wp2_with fail
    refine (only_any partsT s hsz _).mono ?_
    rintro e_ w1 ⟨rfl, hb_⟩
    rw [HO.out]
    have HB := Lib.hid hb_
    clear hb_
    go_wp2_with fail
    go_ret
    exact ⟨by rw [← HF.out]; rfl, HB.out⟩
   | true =>
    have HO := Lib.hid ho
    clear ho
    cases hd : hasB digitsT s[0] with
    | true =>
     have HF : Hid (false = r) := Lib.hid (by rw [← HR.out]; simp [identB, ← first_at s hpos, hd])
     have HD := Lib.hid hd
     clear hd
     go_enter Try.func91, Try.ntmps91
     go_wp2_with fail
     refine (only_any partsT s hsz _).mono ?_
     rintro e_ w1 ⟨rfl, hb_⟩
     rw [HO.out]
     have HB := Lib.hid hb_
     clear hb_
     go_wp2_with fail
     refine (idx_not digitsT s[0] _).mono ?_
     rintro e_ w1 ⟨v, rfl, HV, rfl⟩
     have t2 : decide (v < 0) = false := by rw [HV.out, HD.out]; rfl
     go_wp2_with fail
     go_ret
     exact ⟨by rw [← HF.out]; rfl, HB.out⟩
    | false =>
     obtain ⟨kp, hk⟩ : ∃ kp, keptB s = kp := ⟨_, rfl⟩
     have HF : Hid ((!kp) = r) := Lib.hid (by rw [← HR.out]; simp [identB, ← first_at s hpos, hd, HO.out, h0, h20, hk])
     have HD := Lib.hid hd
     have HK := Lib.hid hk
     clear hd hk
     go_enter Try.func91, Try.ntmps91
     go_wp2_with fail
     refine (only_any partsT s hsz _).mono ?_
     rintro e_ w1 ⟨rfl, hb_⟩
     rw [HO.out]
     have HB := Lib.hid hb_
     clear hb_
     go_wp2_with fail
     refine (idx_not digitsT s[0] _).mono ?_
     rintro e_ w1 ⟨v, rfl, HV, rfl⟩
     have t2 : decide (v < 0) = true := by rw [HV.out, HD.out]; rfl
     go_wp2_with fail
     refine (kept_is s kp HK.out hsz _ (HE.out.below HB.out HE.out.six)).mono ?_
     rintro e_ w1 ⟨rfl, rfl⟩
     go_wp2_with fail
     go_ret
     exact ⟨by rw [← HF.out]; rfl, HB.out⟩
  ·have t1 : decide ((s.size : Int) ≤ 20) = false := decide_eq_false (by omega)
   have HF : Hid (false = r) := Lib.hid (by rw [← HR.out]; simp [identB, h20])
   go_enter Try.func91, Try.ntmps91
   go_wp2_with fail
   go_ret
   exact ⟨by rw [← HF.out]; rfl, Below.refl _ _⟩
theorem toList_data (a : ByteArray) : a.toList = a.data.toList := by
 unfold ByteArray.toList
 have : ∀ n i r, a.size - i = n → ByteArray.toList.loop a i r = r.reverse ++ a.data.toList.drop i := by
  intro n
  induction n with
  | zero =>
   intro i r hi
   unfold ByteArray.toList.loop
   rw [if_neg (by omega), List.drop_eq_nil_of_le (by have : a.data.size = a.size := rfl; simp; omega)]
   simp
  | succ n ih =>
   intro i r hi
   unfold ByteArray.toList.loop
   have hs : a.data.size = a.size := rfl
   rw [if_pos (by omega), ih _ _ (by omega), List.drop_eq_getElem_cons (show i < a.data.toList.length by simp; omega)]
   simp [ByteArray.get!]
   rw [getElem!_pos a.data i (by omega)]
 rw [this _ 0 [] rfl]
 simp
def signsT : ByteArray := ⟨#[32, 43, 32, 45, 32, 42, 32, 47, 32, 37, 32, 61, 61, 32, 33, 61, 32, 60, 32, 60, 61, 32, 62, 32, 62, 61, 32, 38, 38, 32, 124, 124, 32]⟩
def signedB (s : ByteArray) : Bool := decide (s.size ≠ 0) && !hasB s 32 && Lib.contains signsT.data.toList (spaced s).data.toList
def nodeV (k n at_ : Int) (tx : ByteArray) (A : Option Addr) (len c : Nat) : Value := .agg #[.int .i64 k, .int .i64 n, .int .i64 at_, .string tx, .slice A len c]
set_option maxRecDepth 100000 in
set_option maxHeartbeats 16000000 in
theorem text_empty (k n at_ : Int) (tx : ByteArray) (A : Option Addr) (len c : Nat) (hk : k = 1 ∨ k = 6 ∨ k = 10 ∨ k = 11 ∨ k = 12 ∨ k = 14 ∨ k = 15 ∨ k = 20 ∨ k = 21) (w : World) :
  Calls Try.prog 68 #[nodeV k n at_ tx A len c] w fun e w' => e = .returned (.bool tx.toList.isEmpty) ∧ Below w.heap.size w w' := by
 rcases hk with rfl | rfl | rfl | rfl | rfl | rfl | rfl | rfl | rfl
 all_goals
  unfold nodeV
  go_enter Try.func68, Try.ntmps68
  go_wp2_with fail
  go_ret
  exact ⟨rfl, below_alloc (Below.refl _ _) _⟩
set_option maxRecDepth 100000 in
set_option maxHeartbeats 16000000 in
theorem text_name (k n at_ : Int) (tx : ByteArray) (A : Option Addr) (len c : Nat) (hk : k = 2 ∨ k = 3 ∨ k = 4 ∨ k = 5 ∨ k = 7 ∨ k = 8 ∨ k = 9 ∨ k = 16 ∨ k = 17 ∨ k = 18 ∨ k = 19 ∨ k = 22 ∨ k = 23 ∨ k = 24 ∨ k = 25) (hs : tx.size ≤ 140737488351232) (w : World) (hE : Env w) :
  Calls Try.prog 68 #[nodeV k n at_ tx A len c] w fun e w' => e = .returned (.bool (identB tx)) ∧ Below w.heap.size w w' := by
 rcases hk with rfl | rfl | rfl | rfl | rfl | rfl | rfl | rfl | rfl | rfl | rfl | rfl | rfl | rfl | rfl
 all_goals
  have HE := Lib.hid hE
  clear hE
  unfold nodeV
  go_enter Try.func68, Try.ntmps68
  go_wp2_with fail
  refine (ident_is tx (identB tx) rfl (by omega) _ (HE.out.below (below_alloc (Below.refl _ _) _) HE.out.six)).mono ?_
  rintro e_ w1 ⟨rfl, hb_⟩
  have HB := Lib.hid (below_step (below_alloc (Below.refl w.heap.size w) _) hb_)
  clear hb_
  go_wp2_with fail
  go_ret
  exact ⟨rfl, HB.out⟩
set_option maxRecDepth 100000 in
set_option maxHeartbeats 16000000 in
theorem text_call (n at_ : Int) (tx : ByteArray) (A : Option Addr) (len c : Nat) (hs : tx.size ≤ 140737488351232) (w : World) (hE : Env w) :
  Calls Try.prog 68 #[nodeV 13 n at_ tx A len c] w fun e w' => e = .returned (.bool (tx.toList.isEmpty || identB tx)) ∧ Below w.heap.size w w' := by
 have HE := Lib.hid hE
 clear hE
 unfold nodeV
 by_cases h0 : tx.size = 0
 ·have h1 := toList_nil tx h0
  go_enter Try.func68, Try.ntmps68
  go_wp2_with fail
  go_ret
  exact ⟨by rw [h1]; rfl, below_alloc (Below.refl _ _) _⟩
 ·have h1 := toList_ne tx (by omega)
  have h2 : tx.toList.isEmpty = false := by simpa using h1
  have h3 : (tx.toList == []) = false := by simpa using h1
  have hr : (tx.toList.isEmpty || identB tx) = identB tx := by rw [h2]; rfl
  rw [hr]
  go_enter Try.func68, Try.ntmps68
  go_wp2_with fail
  refine (ident_is tx (identB tx) rfl (by omega) _ (HE.out.below (below_alloc (Below.refl _ _) _) HE.out.six)).mono ?_
  rintro e_ w1 ⟨rfl, hb_⟩
  have HB := Lib.hid (below_step (below_alloc (Below.refl w.heap.size w) _) hb_)
  clear hb_
  go_wp2_with fail
  go_ret
  exact ⟨rfl, HB.out⟩
set_option maxRecDepth 100000 in
set_option maxHeartbeats 16000000 in
theorem text_one (n at_ : Int) (tx : ByteArray) (A : Option Addr) (len c : Nat) (w : World) :
  Calls Try.prog 68 #[nodeV 26 n at_ tx A len c] w fun e w' => e = .returned (.bool (tx.toList == [45] || tx.toList == [33])) ∧ Below w.heap.size w w' := by
 unfold nodeV
 cases h1 : (tx.toList == [45])
 ·cases h2 : (tx.toList == [33])
  ·go_enter Try.func68, Try.ntmps68
   go_wp2_with fail
   go_ret
   exact ⟨rfl, below_alloc (Below.refl _ _) _⟩
  ·go_enter Try.func68, Try.ntmps68
   go_wp2_with fail
   go_ret
   exact ⟨rfl, below_alloc (Below.refl _ _) _⟩
 ·go_enter Try.func68, Try.ntmps68
  go_wp2_with fail
  go_ret
  exact ⟨rfl, below_alloc (Below.refl _ _) _⟩
set_option maxRecDepth 100000 in
set_option maxHeartbeats 16000000 in
theorem text_sign (n at_ : Int) (tx : ByteArray) (A : Option Addr) (len c : Nat) (hs : tx.size ≤ 140737488351232) (w : World) (hE : Env w) :
  Calls Try.prog 68 #[nodeV 27 n at_ tx A len c] w fun e w' => e = .returned (.bool (signedB tx)) ∧ Below w.heap.size w w' := by
 have HE := Lib.hid hE
 clear hE
 unfold nodeV
 by_cases h0 : tx.size = 0
 ·have h1 := toList_nil tx h0
  have hr : signedB tx = false := by simp [signedB, h0]
  rw [hr]
  clear h0 hr
  go_enter Try.func68, Try.ntmps68
  go_wp2_with fail
  go_ret
  exact ⟨rfl, below_alloc (Below.refl _ _) _⟩
 ·have h1 := toList_ne tx (by omega)
  have h2 : tx.toList.isEmpty = false := by simpa using h1
  cases hb : hasB tx 32 with
  | true =>
   have hr : signedB tx = false := by simp [signedB, hb]
   rw [hr]
   have HB := Lib.hid hb
   clear hb hr
   go_enter Try.func68, Try.ntmps68
   go_wp2_with fail
   refine (idx_32 tx _).mono ?_
   rintro e_ w1 ⟨v, rfl, HV, rfl⟩
   have t1 : decide (v < 0) = false := by rw [HV.out, HB.out]; rfl
   go_wp2_with fail
   go_ret
   exact ⟨rfl, below_alloc (Below.refl _ _) _⟩
  | false =>
   obtain ⟨r, hr⟩ : ∃ r, r = Lib.contains signsT.data.toList (spaced tx).data.toList := ⟨_, rfl⟩
   have hr2 : signedB tx = r := by rw [hr]; simp [signedB, hb, h0]
   rw [hr2]
   have HR := Lib.hid hr
   have HB := Lib.hid hb
   clear hb hr hr2
   go_enter Try.func68, Try.ntmps68
   go_wp2_with fail
   refine (idx_32 tx _).mono ?_
   rintro e_ w1 ⟨v, rfl, HV, rfl⟩
   have t1 : decide (v < 0) = true := by rw [HV.out, HB.out]; rfl
   go_wp2_with fail
   refine (contains_any signsT (spaced tx) (by decide) _ (HE.out.below (below_alloc (Below.refl _ _) _) HE.out.six)).mono ?_
   rintro e_ w1 ⟨rfl, rfl⟩
   rw [← HR.out]
   go_wp2_with fail
   go_ret
   exact ⟨rfl, below_alloc (Below.refl _ _) _⟩
def textB (k : Int) (tx : ByteArray) : Bool :=
 if k = 1 ∨ k = 6 ∨ k = 10 ∨ k = 11 ∨ k = 12 ∨ k = 14 ∨ k = 15 ∨ k = 20 ∨ k = 21 then tx.toList.isEmpty
 else if k = 13 then tx.toList.isEmpty || identB tx
 else if k = 26 then tx.toList == [45] || tx.toList == [33]
 else if k = 27 then signedB tx
 else identB tx
theorem text_is (k n at_ : Int) (tx : ByteArray) (A : Option Addr) (len c : Nat) (h1 : 1 ≤ k) (h2 : k ≤ 27) (hs : tx.size ≤ 140737488351232) (w : World) (hE : Env w) :
  Calls Try.prog 68 #[nodeV k n at_ tx A len c] w fun e w' => e = .returned (.bool (textB k tx)) ∧ Below w.heap.size w w' := by
 unfold textB
 split
 ·rename_i hk; exact text_empty k n at_ tx A len c hk w
 ·split
  ·rename_i hk; subst hk; exact text_call n at_ tx A len c hs w hE
  ·split
   ·rename_i hk; subst hk; exact text_one n at_ tx A len c w
   ·split
    ·rename_i hk; subst hk; exact text_sign n at_ tx A len c hs w hE
    ·exact text_name k n at_ tx A len c (by omega) hs w hE
attribute [local go_sem] max2_int min2_int max_two min_two max_three min_three max_four min_four
def tree_statement.f (a0 : Int) : Option (Bool) := if a0 ≥ 7 then (some (decide (a0 ≤ 17))) else (some false)
set_option maxHeartbeats 8000000 in
set_option maxRecDepth 100000 in
theorem tree_statement.calls (a0 : Int) (r : Bool) (w : World) (h : tree_statement.f a0 = some r) :
  Calls Try.prog 98 #[.int .i64 a0] w fun e w' => e = .returned (.bool r) ∧ Drawn0 w w' := by
 have H : (if a0 ≥ 7 then (some (decide (a0 ≤ 17))) else (some false)) = some r := h
 clear h
 by_cases c2 : a0 ≥ 7
 ·rw [if_pos c2] at H
  have c2b0 : decide (7 ≤ a0) = true := decide_eq_true c2
  clear c2
  obtain rfl := Option.some.inj H
  go_enter Try.func98, Try.ntmps98
  go_wp2
  go_ret
  exact ⟨by first | rfl | (simp; done) | (simp [*]; done), by repeat (first | exact Drawn0.refl _ | apply Drawn0.step)⟩
 ·rw [if_neg c2] at H
  have c2b0 : decide (7 ≤ a0) = false := decide_eq_false c2
  clear c2
  obtain rfl := Option.some.inj H
  go_enter Try.func98, Try.ntmps98
  go_wp2
  go_ret
  exact ⟨by first | rfl | (simp; done) | (simp [*]; done), by repeat (first | exact Drawn0.refl _ | apply Drawn0.step)⟩
def tree_expression.f (a0 : Int) : Option (Bool) := if a0 ≥ 20 then (some (decide (a0 ≤ 27))) else (some false)
set_option maxHeartbeats 8000000 in
set_option maxRecDepth 100000 in
theorem tree_expression.calls (a0 : Int) (r : Bool) (w : World) (h : tree_expression.f a0 = some r) :
  Calls Try.prog 99 #[.int .i64 a0] w fun e w' => e = .returned (.bool r) ∧ Drawn0 w w' := by
 have H : (if a0 ≥ 20 then (some (decide (a0 ≤ 27))) else (some false)) = some r := h
 clear h
 by_cases c2 : a0 ≥ 20
 ·rw [if_pos c2] at H
  have c2b0 : decide (20 ≤ a0) = true := decide_eq_true c2
  clear c2
  obtain rfl := Option.some.inj H
  go_enter Try.func99, Try.ntmps99
  go_wp2
  go_ret
  exact ⟨by first | rfl | (simp; done) | (simp [*]; done), by repeat (first | exact Drawn0.refl _ | apply Drawn0.step)⟩
 ·rw [if_neg c2] at H
  have c2b0 : decide (20 ≤ a0) = false := decide_eq_false c2
  clear c2
  obtain rfl := Option.some.inj H
  go_enter Try.func99, Try.ntmps99
  go_wp2
  go_ret
  exact ⟨by first | rfl | (simp; done) | (simp [*]; done), by repeat (first | exact Drawn0.refl _ | apply Drawn0.step)⟩
def runF (p : Int → Bool) : Nat → List Int → Nat
 | _, [] => 0
 | 0, _ :: _ => 0
 | m + 1, c :: l => if p c = true then runF p m l + 1 else 0
theorem runF_yes (p : Int → Bool) (m : Nat) (c : Int) (l : List Int) (h : p c = true) : runF p (m + 1) (c :: l) = runF p m l + 1 := by rw [runF, if_pos h]
theorem runF_no (p : Int → Bool) (m : Nat) (c : Int) (l : List Int) (h : p c = false) : runF p m (c :: l) = 0 := by
 cases m with
 | zero => rfl
 | succ m => rw [runF, if_neg (by rw [h]; decide)]
theorem runF_zero (p : Int → Bool) (l : List Int) : runF p 0 l = 0 := by cases l <;> rfl
theorem runF_le (p : Int → Bool) : ∀ (l : List Int) (m : Nat), runF p m l ≤ l.length
 | [], m => by cases m <;> exact Nat.le_refl _
 | c :: l, 0 => Nat.zero_le _
 | c :: l, m + 1 => by
  rw [runF]
  split
  ·have := runF_le p l m; simp; omega
  ·exact Nat.zero_le _
def kindsOf (nodes : List S101) (kl : List Int) : List Int := kl.map fun k => (rd_T101 nodes k).f0
theorem kinds_drop (nodes : List S101) (kl : List Int) (i : Nat) (h : i < kl.length) : (kindsOf nodes kl).drop i = (rd_T101 nodes kl[i]).f0 :: (kindsOf nodes kl).drop (i + 1) := by
 have h2 : i < (kindsOf nodes kl).length := by simpa [kindsOf] using h
 rw [List.drop_eq_getElem_cons h2]
 congr 1
 simp [kindsOf]
theorem kinds_end (nodes : List S101) (kl : List Int) (i : Nat) (h : kl.length ≤ i) : (kindsOf nodes kl).drop i = [] := by
 rw [List.drop_eq_nil_iff]; simpa [kindsOf] using h
set_option maxRecDepth 100000 in
theorem is_calls (kind x : Int) (b : Nat) (w : World) (h : w.cell? ⟨b, 0, none⟩ = some (.int .i64 kind)) :
  Calls Try.prog 96 #[.int .i64 x, .pointer (some ⟨b, 0, none⟩)] w fun e w' => e = .returned (.bool (x == kind)) ∧ ∃ m, w' = w.drewN m := by
 go_enter Try.func96, Try.ntmps96
 go_wp2_with fail
 go_ret
 exact ⟨rfl, 0, rfl⟩
set_option maxRecDepth 100000 in
theorem is_new (kind : Int) (w : World) : Calls Try.prog 95 #[.int .i64 kind] w fun e w' => e = .returned (.func (.func 96) #[] #[.pointer (some ⟨w.heap.size, 0, none⟩)]) ∧ w' = w.alloc (.cells #[.int .i64 kind] 3) := by
 have hmf : ∀ (fn : Fn) (first cap : Array Value) (w : World), (Instr.makeFunc fn first cap).run Try.prog w = .ok (.func fn first cap) w := fun _ _ _ _ => rfl
 go_enter Try.func95, Try.ntmps95
 go_wp2_with fail
 go_ret
 exact ⟨rfl, rfl⟩
set_option maxRecDepth 100000 in
theorem end_is (gi gn i : Nat) (Ak : Option Addr) (n ck : Nat) (w : World) (hI : w.cell? ⟨gi, 0, none⟩ = some (.int .i64 i)) (hN : w.cell? ⟨gn, 4, none⟩ = some (.slice Ak n ck)) :
  Calls Try.prog 97 #[.pointer (some ⟨gi, 0, none⟩), .pointer (some ⟨gn, 0, none⟩)] w fun e w' => e = .returned (.bool ((i : Int) == (n : Int))) ∧ w' = w := by
 go_enter Try.func97, Try.ntmps97
 go_wp2_with fail
 go_ret
 exact ⟨rfl, rfl⟩
theorem ret_sub (i i0 : Nat) (h : i0 ≤ i) (w18 : IntKind.i64.wrap ((i : Int) - (i0 : Int)) = (i : Int) - i0) : Ending.returned (.int .i64 ((i : Int) - (i0 : Int))) = Ending.returned (.int .i64 ((i - i0 : Nat) : Int)) := by
 rw [Int.ofNat_sub h]
structure TakeW (w : World) (gi gn gt : Nat) (k n at_ : Int) (tx : ByteArray) (Ak : Option Addr) (ck : Nat) (kl : List Int) (At : Option Addr) (ct : Nat) (nodes : List S101) (root : Int) : Prop where
 hN : w.heap[gn]? = some (.cells #[.int .i64 k, .int .i64 n, .int .i64 at_, .string tx, .slice Ak kl.length ck] 101 (0, 0))
 hT : w.heap[gt]? = some (.cells #[.slice At nodes.length ct, .int .i64 root] 69 (0, 0))
 gn_ : gn ≠ gi
 gt_ : gt ≠ gi
 hck : kl.length ≤ ck
 hct : nodes.length ≤ ct
 hkl : kl.length ≤ 4000
 hnl : nodes.length ≤ 4000
 hK : ∀ W', KeepBut w W' gi none → Kd.C (Kd.int .i64) W' Ak kl.length kl
 hTr : ∀ W', KeepBut w W' gi none → Kd.C k101 W' At nodes.length nodes
 hin : ∀ x ∈ kl, 0 ≤ x ∧ x < nodes.length
set_option maxRecDepth 100000 in
set_option maxHeartbeats 8000000 in
theorem take_43 (b : Nat) (most : Int) (h0 : 0 ≤ most) (hm : most ≤ 4000) (p : Int → Bool) (gi gn gt i0 : Nat) (k n at_ : Int) (tx : ByteArray) (Ak : Option Addr) (ck : Nat) (kl : List Int) (At : Option Addr) (ct : Nat) (nodes : List S101) (root : Int) (base : Nat) (w0 w : World)
  (hTW : TakeW w gi gn gt k n at_ tx Ak ck kl At ct nodes root) (hI : w.heap[gi]? = some (.cells #[.int .i64 i0] 3 (0, 0))) (hi0 : i0 ≤ kl.length)
  (hS : ∀ (W' : World) (x : Int), KeepBut w W' gi none → Calls Try.prog 96 #[.int .i64 x, .pointer (some ⟨b, 0, none⟩)] W' fun e w'' => e = .returned (.bool (p x)) ∧ ∃ m, w'' = W'.drewN m)
  (hB : Below base w0 w) (hbg : base ≤ gi) :
  Calls Try.prog 94 #[.int .i64 most, .func (.func 96) #[] #[.pointer (some ⟨b, 0, none⟩)], .pointer (some ⟨gi, 0, none⟩), .pointer (some ⟨gn, 0, none⟩), .pointer (some ⟨gt, 0, none⟩)] w fun e W =>
   e = .returned (.int .i64 (runF p most.toNat ((kindsOf nodes kl).drop i0) : Nat)) ∧ KeepBut w W gi none ∧ Below base w0 W ∧ W.heap[gi]? = some (.cells #[.int .i64 (i0 + runF p most.toNat ((kindsOf nodes kl).drop i0) : Nat)] 3 (0, 0)) := by
 have HTW := Lib.hid hTW
 have HS := Lib.hid hS
 have HI0 := Lib.hid hI
 have HB0 := Lib.hid hB
 obtain ⟨R, hR⟩ : ∃ R, R = runF p most.toNat ((kindsOf nodes kl).drop i0) := ⟨_, rfl⟩
 rw [← hR]
 have HR := Lib.hid hR
 have hRl : R ≤ kl.length - i0 := by
  rw [hR]
  refine Nat.le_trans (runF_le _ _ _) ?_
  simp [kindsOf]
 have cI0 : w.cell? ⟨gi, 0, none⟩ = some (.int .i64 i0) := (blk_cell hI 0).trans rfl
 have hkl := hTW.hkl
 have hnl := hTW.hnl
 clear hTW hS hI hB hR
 go_enter Try.func94, Try.ntmps94
 go_wp2_with fail
 go_loopg [] (kl.length + 1 - i0) (fun kq W => ∃ i : Nat, i0 ≤ i ∧ i ≤ kl.length ∧ Hid (i + kq = kl.length + 1) ∧ Hid ((i - i0 : Nat) ≤ most.toNat) ∧ Hid (R = (i - i0) + runF p (most.toNat - (i - i0)) ((kindsOf nodes kl).drop i)) ∧ Hid (KeepBut w W gi none) ∧ Hid (Below base w0 W) ∧ Hid (W.heap[gi]? = some (.cells #[.int .i64 i] 3 (0, 0))))
 case atStart => exact ⟨i0, Nat.le_refl _, hi0, Lib.hid (by omega), Lib.hid (by omega), Lib.hid (by rw [Nat.sub_self, Nat.sub_zero, Nat.zero_add]; exact HR.out), Lib.hid (KeepBut.refl _ _ _), HB0, HI0⟩
 case round =>
  obtain ⟨i, h1, h2, HN, HM, HRR, HKB, HBB, HI⟩ := hrel
  clear cI0
  have cI : wr.cell? ⟨gi, 0, none⟩ = some (.int .i64 i) := (blk_cell HI.out 0).trans rfl
  have fI := blk_frozen HI.out 0
  have HBN := Lib.hid (KeepBut.blk HKB.out HTW.out.hN HTW.out.gn_ (by simp))
  have HBT := Lib.hid (KeepBut.blk HKB.out HTW.out.hT HTW.out.gt_ (by simp))
  have cN : wr.cell? ⟨gn, 4, none⟩ = some (.slice Ak kl.length ck) := (blk_cell HBN.out 4).trans rfl
  have cT : wr.cell? ⟨gt, 0, none⟩ = some (.slice At nodes.length ct) := (blk_cell HBT.out 0).trans rfl
  have w18 : IntKind.i64.wrap ((i : Int) - (i0 : Int)) = (i : Int) - i0 := by rw [i64_w]; unfold wrap64; omega
  by_cases hlt : i < kl.length
  ·have q1 : decide ((i : Int) < (kl.length : Int)) = true := decide_eq_true (by omega)
   have q1n : decide (i < kl.length) = true := decide_eq_true hlt
   by_cases hmo : (i : Int) - i0 < most
   ·have q2 : decide ((i : Int) - (i0 : Int) < most) = true := decide_eq_true hmo
    have hkin := HTW.out.hin kl[i] (List.getElem_mem hlt)
    obtain ⟨adK, eK, z0⟩ := Kd.at_int (HTW.out.hK wr HKB.out) (i : Int) (by omega) (by omega)
    have hq : rd kl (i : Int) = kl[i] := by simp [rd, hlt]
    rw [hq, Int.toNat_natCast] at z0
    clear hq
    have hkd := kinds_drop nodes kl i hlt
    obtain ⟨kv, hkv⟩ : ∃ kv, kv = kl[i] := ⟨_, rfl⟩
    rw [← hkv] at hkin z0 hkd
    clear hkv
    obtain ⟨adT, A4, c4, eT, y0, _, _, _, _, _, _⟩ := at_T101 (HTW.out.hTr wr HKB.out) kv hkin.1 hkin.2
    obtain ⟨kd, hkk⟩ : ∃ kd, kd = (rd_T101 nodes kv).f0 := ⟨_, rfl⟩
    rw [← hkk] at y0 hkd
    clear hkk
    cases eK
    cases eT
    have k1 : 0 ≤ kv := hkin.1
    have k2 : kv < (nodes.length : Int) := hkin.2
    have k1e := eq_true k1
    have k2e := eq_true k2
    have HKD := Lib.hid hkd
    clear hkin hkd
    cases hp : p kd with
    | true =>
     have HP := Lib.hid hp
     have HC := Lib.hid (fun (W' : World) h => (HS.out W' kd h))
     have hst : runF p (most.toNat - (i - i0)) ((kindsOf nodes kl).drop i) = runF p (most.toNat - (i + 1 - i0)) ((kindsOf nodes kl).drop (i + 1)) + 1 := by
      rw [HKD.out, show most.toNat - (i - i0) = (most.toNat - (i + 1 - i0)) + 1 by omega, runF_yes _ _ _ _ hp]
     have HST := Lib.hid hst
     clear hp hst
     go_wp2_with fail
     go_quiet ((refine (HC.out _ (HKB.out.trans (KeepBut.of_below (pw_below_drewN (Below.refl _ _) _) gi none) (.inl rfl))).mono ?_; rintro e_ w_ ⟨rfl, m_, rfl⟩; rw [HP.out]; exact ⟨rfl, _, World.drewN_drewN _ _ _⟩))
     go_wp2_with fail
     go_roundg (gk - 1)
     case measure => have := HN.out; omega
     case rel => exact ⟨i + 1, by omega, hlt, Lib.hid (by have := HN.out; omega), Lib.hid (by omega), Lib.hid (by have h := HRR.out; rw [HST.out] at h; omega), Lib.hid (KeepBut.set_ (HKB.out.trans (KeepBut.of_below (pw_below_drewN (Below.refl _ _) _) gi none) (.inl rfl)) 0 _), Lib.hid (Below.setCell (pw_below_drewN HBB.out _) (p := ⟨gi, 0, none⟩) hbg _), Lib.hid (blk_put (blk_drewN HI.out _) 0 _ (by norm_cast))⟩
    | false =>
     have HP := Lib.hid hp
     have HC := Lib.hid (fun (W' : World) h => (HS.out W' kd h))
     have HF : Hid (R = i - i0) := Lib.hid (by rw [HRR.out, HKD.out, runF_no _ _ _ _ hp]; rfl)
     clear hp
     go_wp2_with fail
     go_quiet ((refine (HC.out _ (HKB.out.trans (KeepBut.of_below (pw_below_drewN (Below.refl _ _) _) gi none) (.inl rfl))).mono ?_; rintro e_ w_ ⟨rfl, m_, rfl⟩; rw [HP.out]; exact ⟨rfl, _, World.drewN_drewN _ _ _⟩))
     go_wp2_with fail
     go_ret
     refine ⟨by rw [HF.out]; exact ret_sub i i0 h1 w18, HKB.out.trans (KeepBut.of_below (pw_below_drewN (Below.refl _ _) _) gi none) (.inl rfl), pw_below_drewN HBB.out _, ?_⟩
     rw [show i0 + R = i by have := HF.out; omega]
     exact HI.out
   ·have q2 : decide ((i : Int) - (i0 : Int) < most) = false := decide_eq_false hmo
    have HF : Hid (R = i - i0) := Lib.hid (by rw [HRR.out, show most.toNat - (i - i0) = 0 by omega, runF_zero]; rfl)
    go_wp2_with fail
    go_quiet (fail)
    go_wp2_with fail
    go_ret
    refine ⟨by rw [HF.out]; exact ret_sub i i0 h1 w18, HKB.out.trans (KeepBut.of_below (pw_below_drewN (Below.refl _ _) _) gi none) (.inl rfl), pw_below_drewN HBB.out _, ?_⟩
    rw [show i0 + R = i by have := HF.out; omega]
    exact HI.out
  ·have q1 : decide ((i : Int) < (kl.length : Int)) = false := decide_eq_false (by omega)
   have q1n : decide (i < kl.length) = false := decide_eq_false hlt
   have HF : Hid (R = i - i0) := Lib.hid (by rw [HRR.out, kinds_end _ _ _ (by omega)]; cases (most.toNat - (i - i0)) <;> rfl)
   go_wp2_with fail
   go_quiet (fail)
   go_wp2_with fail
   go_ret
   refine ⟨by rw [HF.out]; exact ret_sub i i0 h1 w18, HKB.out.trans (KeepBut.of_below (pw_below_drewN (Below.refl _ _) _) gi none) (.inl rfl), pw_below_drewN HBB.out _, ?_⟩
   rw [show i0 + R = i by have := HF.out; omega]
   exact HI.out
set_option maxRecDepth 100000 in
set_option maxHeartbeats 8000000 in
theorem take_45 (most : Int) (h0 : 0 ≤ most) (hm : most ≤ 4000) (p : Int → Bool) (gi gn gt i0 : Nat) (k n at_ : Int) (tx : ByteArray) (Ak : Option Addr) (ck : Nat) (kl : List Int) (At : Option Addr) (ct : Nat) (nodes : List S101) (root : Int) (base : Nat) (w0 w : World)
  (hTW : TakeW w gi gn gt k n at_ tx Ak ck kl At ct nodes root) (hI : w.heap[gi]? = some (.cells #[.int .i64 i0] 3 (0, 0))) (hi0 : i0 ≤ kl.length)
  (hS : ∀ (W' : World) (x : Int), KeepBut w W' gi none → Calls Try.prog 98 #[.int .i64 x] W' fun e w'' => e = .returned (.bool (p x)) ∧ ∃ m, w'' = W'.drewN m)
  (hB : Below base w0 w) (hbg : base ≤ gi) :
  Calls Try.prog 94 #[.int .i64 most, .func (.func 98) #[] #[], .pointer (some ⟨gi, 0, none⟩), .pointer (some ⟨gn, 0, none⟩), .pointer (some ⟨gt, 0, none⟩)] w fun e W =>
   e = .returned (.int .i64 (runF p most.toNat ((kindsOf nodes kl).drop i0) : Nat)) ∧ KeepBut w W gi none ∧ Below base w0 W ∧ W.heap[gi]? = some (.cells #[.int .i64 (i0 + runF p most.toNat ((kindsOf nodes kl).drop i0) : Nat)] 3 (0, 0)) := by
 have HTW := Lib.hid hTW
 have HS := Lib.hid hS
 have HI0 := Lib.hid hI
 have HB0 := Lib.hid hB
 obtain ⟨R, hR⟩ : ∃ R, R = runF p most.toNat ((kindsOf nodes kl).drop i0) := ⟨_, rfl⟩
 rw [← hR]
 have HR := Lib.hid hR
 have hRl : R ≤ kl.length - i0 := by
  rw [hR]
  refine Nat.le_trans (runF_le _ _ _) ?_
  simp [kindsOf]
 have cI0 : w.cell? ⟨gi, 0, none⟩ = some (.int .i64 i0) := (blk_cell hI 0).trans rfl
 have hkl := hTW.hkl
 have hnl := hTW.hnl
 clear hTW hS hI hB hR
 go_enter Try.func94, Try.ntmps94
 go_wp2_with fail
 go_loopg [] (kl.length + 1 - i0) (fun kq W => ∃ i : Nat, i0 ≤ i ∧ i ≤ kl.length ∧ Hid (i + kq = kl.length + 1) ∧ Hid ((i - i0 : Nat) ≤ most.toNat) ∧ Hid (R = (i - i0) + runF p (most.toNat - (i - i0)) ((kindsOf nodes kl).drop i)) ∧ Hid (KeepBut w W gi none) ∧ Hid (Below base w0 W) ∧ Hid (W.heap[gi]? = some (.cells #[.int .i64 i] 3 (0, 0))))
 case atStart => exact ⟨i0, Nat.le_refl _, hi0, Lib.hid (by omega), Lib.hid (by omega), Lib.hid (by rw [Nat.sub_self, Nat.sub_zero, Nat.zero_add]; exact HR.out), Lib.hid (KeepBut.refl _ _ _), HB0, HI0⟩
 case round =>
  obtain ⟨i, h1, h2, HN, HM, HRR, HKB, HBB, HI⟩ := hrel
  clear cI0
  have cI : wr.cell? ⟨gi, 0, none⟩ = some (.int .i64 i) := (blk_cell HI.out 0).trans rfl
  have fI := blk_frozen HI.out 0
  have HBN := Lib.hid (KeepBut.blk HKB.out HTW.out.hN HTW.out.gn_ (by simp))
  have HBT := Lib.hid (KeepBut.blk HKB.out HTW.out.hT HTW.out.gt_ (by simp))
  have cN : wr.cell? ⟨gn, 4, none⟩ = some (.slice Ak kl.length ck) := (blk_cell HBN.out 4).trans rfl
  have cT : wr.cell? ⟨gt, 0, none⟩ = some (.slice At nodes.length ct) := (blk_cell HBT.out 0).trans rfl
  have w18 : IntKind.i64.wrap ((i : Int) - (i0 : Int)) = (i : Int) - i0 := by rw [i64_w]; unfold wrap64; omega
  by_cases hlt : i < kl.length
  ·have q1 : decide ((i : Int) < (kl.length : Int)) = true := decide_eq_true (by omega)
   have q1n : decide (i < kl.length) = true := decide_eq_true hlt
   by_cases hmo : (i : Int) - i0 < most
   ·have q2 : decide ((i : Int) - (i0 : Int) < most) = true := decide_eq_true hmo
    have hkin := HTW.out.hin kl[i] (List.getElem_mem hlt)
    obtain ⟨adK, eK, z0⟩ := Kd.at_int (HTW.out.hK wr HKB.out) (i : Int) (by omega) (by omega)
    have hq : rd kl (i : Int) = kl[i] := by simp [rd, hlt]
    rw [hq, Int.toNat_natCast] at z0
    clear hq
    have hkd := kinds_drop nodes kl i hlt
    obtain ⟨kv, hkv⟩ : ∃ kv, kv = kl[i] := ⟨_, rfl⟩
    rw [← hkv] at hkin z0 hkd
    clear hkv
    obtain ⟨adT, A4, c4, eT, y0, _, _, _, _, _, _⟩ := at_T101 (HTW.out.hTr wr HKB.out) kv hkin.1 hkin.2
    obtain ⟨kd, hkk⟩ : ∃ kd, kd = (rd_T101 nodes kv).f0 := ⟨_, rfl⟩
    rw [← hkk] at y0 hkd
    clear hkk
    cases eK
    cases eT
    have k1 : 0 ≤ kv := hkin.1
    have k2 : kv < (nodes.length : Int) := hkin.2
    have k1e := eq_true k1
    have k2e := eq_true k2
    have HKD := Lib.hid hkd
    clear hkin hkd
    cases hp : p kd with
    | true =>
     have HP := Lib.hid hp
     have HC := Lib.hid (fun (W' : World) h => (HS.out W' kd h))
     have hst : runF p (most.toNat - (i - i0)) ((kindsOf nodes kl).drop i) = runF p (most.toNat - (i + 1 - i0)) ((kindsOf nodes kl).drop (i + 1)) + 1 := by
      rw [HKD.out, show most.toNat - (i - i0) = (most.toNat - (i + 1 - i0)) + 1 by omega, runF_yes _ _ _ _ hp]
     have HST := Lib.hid hst
     clear hp hst
     go_wp2_with fail
     go_quiet ((refine (HC.out _ (HKB.out.trans (KeepBut.of_below (pw_below_drewN (Below.refl _ _) _) gi none) (.inl rfl))).mono ?_; rintro e_ w_ ⟨rfl, m_, rfl⟩; rw [HP.out]; exact ⟨rfl, _, World.drewN_drewN _ _ _⟩))
     go_wp2_with fail
     go_roundg (gk - 1)
     case measure => have := HN.out; omega
     case rel => exact ⟨i + 1, by omega, hlt, Lib.hid (by have := HN.out; omega), Lib.hid (by omega), Lib.hid (by have h := HRR.out; rw [HST.out] at h; omega), Lib.hid (KeepBut.set_ (HKB.out.trans (KeepBut.of_below (pw_below_drewN (Below.refl _ _) _) gi none) (.inl rfl)) 0 _), Lib.hid (Below.setCell (pw_below_drewN HBB.out _) (p := ⟨gi, 0, none⟩) hbg _), Lib.hid (blk_put (blk_drewN HI.out _) 0 _ (by norm_cast))⟩
    | false =>
     have HP := Lib.hid hp
     have HC := Lib.hid (fun (W' : World) h => (HS.out W' kd h))
     have HF : Hid (R = i - i0) := Lib.hid (by rw [HRR.out, HKD.out, runF_no _ _ _ _ hp]; rfl)
     clear hp
     go_wp2_with fail
     go_quiet ((refine (HC.out _ (HKB.out.trans (KeepBut.of_below (pw_below_drewN (Below.refl _ _) _) gi none) (.inl rfl))).mono ?_; rintro e_ w_ ⟨rfl, m_, rfl⟩; rw [HP.out]; exact ⟨rfl, _, World.drewN_drewN _ _ _⟩))
     go_wp2_with fail
     go_ret
     refine ⟨by rw [HF.out]; exact ret_sub i i0 h1 w18, HKB.out.trans (KeepBut.of_below (pw_below_drewN (Below.refl _ _) _) gi none) (.inl rfl), pw_below_drewN HBB.out _, ?_⟩
     rw [show i0 + R = i by have := HF.out; omega]
     exact HI.out
   ·have q2 : decide ((i : Int) - (i0 : Int) < most) = false := decide_eq_false hmo
    have HF : Hid (R = i - i0) := Lib.hid (by rw [HRR.out, show most.toNat - (i - i0) = 0 by omega, runF_zero]; rfl)
    go_wp2_with fail
    go_quiet (fail)
    go_wp2_with fail
    go_ret
    refine ⟨by rw [HF.out]; exact ret_sub i i0 h1 w18, HKB.out.trans (KeepBut.of_below (pw_below_drewN (Below.refl _ _) _) gi none) (.inl rfl), pw_below_drewN HBB.out _, ?_⟩
    rw [show i0 + R = i by have := HF.out; omega]
    exact HI.out
  ·have q1 : decide ((i : Int) < (kl.length : Int)) = false := decide_eq_false (by omega)
   have q1n : decide (i < kl.length) = false := decide_eq_false hlt
   have HF : Hid (R = i - i0) := Lib.hid (by rw [HRR.out, kinds_end _ _ _ (by omega)]; cases (most.toNat - (i - i0)) <;> rfl)
   go_wp2_with fail
   go_quiet (fail)
   go_wp2_with fail
   go_ret
   refine ⟨by rw [HF.out]; exact ret_sub i i0 h1 w18, HKB.out.trans (KeepBut.of_below (pw_below_drewN (Below.refl _ _) _) gi none) (.inl rfl), pw_below_drewN HBB.out _, ?_⟩
   rw [show i0 + R = i by have := HF.out; omega]
   exact HI.out
set_option maxRecDepth 100000 in
set_option maxHeartbeats 8000000 in
theorem take_46 (most : Int) (h0 : 0 ≤ most) (hm : most ≤ 4000) (p : Int → Bool) (gi gn gt i0 : Nat) (k n at_ : Int) (tx : ByteArray) (Ak : Option Addr) (ck : Nat) (kl : List Int) (At : Option Addr) (ct : Nat) (nodes : List S101) (root : Int) (base : Nat) (w0 w : World)
  (hTW : TakeW w gi gn gt k n at_ tx Ak ck kl At ct nodes root) (hI : w.heap[gi]? = some (.cells #[.int .i64 i0] 3 (0, 0))) (hi0 : i0 ≤ kl.length)
  (hS : ∀ (W' : World) (x : Int), KeepBut w W' gi none → Calls Try.prog 99 #[.int .i64 x] W' fun e w'' => e = .returned (.bool (p x)) ∧ ∃ m, w'' = W'.drewN m)
  (hB : Below base w0 w) (hbg : base ≤ gi) :
  Calls Try.prog 94 #[.int .i64 most, .func (.func 99) #[] #[], .pointer (some ⟨gi, 0, none⟩), .pointer (some ⟨gn, 0, none⟩), .pointer (some ⟨gt, 0, none⟩)] w fun e W =>
   e = .returned (.int .i64 (runF p most.toNat ((kindsOf nodes kl).drop i0) : Nat)) ∧ KeepBut w W gi none ∧ Below base w0 W ∧ W.heap[gi]? = some (.cells #[.int .i64 (i0 + runF p most.toNat ((kindsOf nodes kl).drop i0) : Nat)] 3 (0, 0)) := by
 have HTW := Lib.hid hTW
 have HS := Lib.hid hS
 have HI0 := Lib.hid hI
 have HB0 := Lib.hid hB
 obtain ⟨R, hR⟩ : ∃ R, R = runF p most.toNat ((kindsOf nodes kl).drop i0) := ⟨_, rfl⟩
 rw [← hR]
 have HR := Lib.hid hR
 have hRl : R ≤ kl.length - i0 := by
  rw [hR]
  refine Nat.le_trans (runF_le _ _ _) ?_
  simp [kindsOf]
 have cI0 : w.cell? ⟨gi, 0, none⟩ = some (.int .i64 i0) := (blk_cell hI 0).trans rfl
 have hkl := hTW.hkl
 have hnl := hTW.hnl
 clear hTW hS hI hB hR
 go_enter Try.func94, Try.ntmps94
 go_wp2_with fail
 go_loopg [] (kl.length + 1 - i0) (fun kq W => ∃ i : Nat, i0 ≤ i ∧ i ≤ kl.length ∧ Hid (i + kq = kl.length + 1) ∧ Hid ((i - i0 : Nat) ≤ most.toNat) ∧ Hid (R = (i - i0) + runF p (most.toNat - (i - i0)) ((kindsOf nodes kl).drop i)) ∧ Hid (KeepBut w W gi none) ∧ Hid (Below base w0 W) ∧ Hid (W.heap[gi]? = some (.cells #[.int .i64 i] 3 (0, 0))))
 case atStart => exact ⟨i0, Nat.le_refl _, hi0, Lib.hid (by omega), Lib.hid (by omega), Lib.hid (by rw [Nat.sub_self, Nat.sub_zero, Nat.zero_add]; exact HR.out), Lib.hid (KeepBut.refl _ _ _), HB0, HI0⟩
 case round =>
  obtain ⟨i, h1, h2, HN, HM, HRR, HKB, HBB, HI⟩ := hrel
  clear cI0
  have cI : wr.cell? ⟨gi, 0, none⟩ = some (.int .i64 i) := (blk_cell HI.out 0).trans rfl
  have fI := blk_frozen HI.out 0
  have HBN := Lib.hid (KeepBut.blk HKB.out HTW.out.hN HTW.out.gn_ (by simp))
  have HBT := Lib.hid (KeepBut.blk HKB.out HTW.out.hT HTW.out.gt_ (by simp))
  have cN : wr.cell? ⟨gn, 4, none⟩ = some (.slice Ak kl.length ck) := (blk_cell HBN.out 4).trans rfl
  have cT : wr.cell? ⟨gt, 0, none⟩ = some (.slice At nodes.length ct) := (blk_cell HBT.out 0).trans rfl
  have w18 : IntKind.i64.wrap ((i : Int) - (i0 : Int)) = (i : Int) - i0 := by rw [i64_w]; unfold wrap64; omega
  by_cases hlt : i < kl.length
  ·have q1 : decide ((i : Int) < (kl.length : Int)) = true := decide_eq_true (by omega)
   have q1n : decide (i < kl.length) = true := decide_eq_true hlt
   by_cases hmo : (i : Int) - i0 < most
   ·have q2 : decide ((i : Int) - (i0 : Int) < most) = true := decide_eq_true hmo
    have hkin := HTW.out.hin kl[i] (List.getElem_mem hlt)
    obtain ⟨adK, eK, z0⟩ := Kd.at_int (HTW.out.hK wr HKB.out) (i : Int) (by omega) (by omega)
    have hq : rd kl (i : Int) = kl[i] := by simp [rd, hlt]
    rw [hq, Int.toNat_natCast] at z0
    clear hq
    have hkd := kinds_drop nodes kl i hlt
    obtain ⟨kv, hkv⟩ : ∃ kv, kv = kl[i] := ⟨_, rfl⟩
    rw [← hkv] at hkin z0 hkd
    clear hkv
    obtain ⟨adT, A4, c4, eT, y0, _, _, _, _, _, _⟩ := at_T101 (HTW.out.hTr wr HKB.out) kv hkin.1 hkin.2
    obtain ⟨kd, hkk⟩ : ∃ kd, kd = (rd_T101 nodes kv).f0 := ⟨_, rfl⟩
    rw [← hkk] at y0 hkd
    clear hkk
    cases eK
    cases eT
    have k1 : 0 ≤ kv := hkin.1
    have k2 : kv < (nodes.length : Int) := hkin.2
    have k1e := eq_true k1
    have k2e := eq_true k2
    have HKD := Lib.hid hkd
    clear hkin hkd
    cases hp : p kd with
    | true =>
     have HP := Lib.hid hp
     have HC := Lib.hid (fun (W' : World) h => (HS.out W' kd h))
     have hst : runF p (most.toNat - (i - i0)) ((kindsOf nodes kl).drop i) = runF p (most.toNat - (i + 1 - i0)) ((kindsOf nodes kl).drop (i + 1)) + 1 := by
      rw [HKD.out, show most.toNat - (i - i0) = (most.toNat - (i + 1 - i0)) + 1 by omega, runF_yes _ _ _ _ hp]
     have HST := Lib.hid hst
     clear hp hst
     go_wp2_with fail
     go_quiet ((refine (HC.out _ (HKB.out.trans (KeepBut.of_below (pw_below_drewN (Below.refl _ _) _) gi none) (.inl rfl))).mono ?_; rintro e_ w_ ⟨rfl, m_, rfl⟩; rw [HP.out]; exact ⟨rfl, _, World.drewN_drewN _ _ _⟩))
     go_wp2_with fail
     go_roundg (gk - 1)
     case measure => have := HN.out; omega
     case rel => exact ⟨i + 1, by omega, hlt, Lib.hid (by have := HN.out; omega), Lib.hid (by omega), Lib.hid (by have h := HRR.out; rw [HST.out] at h; omega), Lib.hid (KeepBut.set_ (HKB.out.trans (KeepBut.of_below (pw_below_drewN (Below.refl _ _) _) gi none) (.inl rfl)) 0 _), Lib.hid (Below.setCell (pw_below_drewN HBB.out _) (p := ⟨gi, 0, none⟩) hbg _), Lib.hid (blk_put (blk_drewN HI.out _) 0 _ (by norm_cast))⟩
    | false =>
     have HP := Lib.hid hp
     have HC := Lib.hid (fun (W' : World) h => (HS.out W' kd h))
     have HF : Hid (R = i - i0) := Lib.hid (by rw [HRR.out, HKD.out, runF_no _ _ _ _ hp]; rfl)
     clear hp
     go_wp2_with fail
     go_quiet ((refine (HC.out _ (HKB.out.trans (KeepBut.of_below (pw_below_drewN (Below.refl _ _) _) gi none) (.inl rfl))).mono ?_; rintro e_ w_ ⟨rfl, m_, rfl⟩; rw [HP.out]; exact ⟨rfl, _, World.drewN_drewN _ _ _⟩))
     go_wp2_with fail
     go_ret
     refine ⟨by rw [HF.out]; exact ret_sub i i0 h1 w18, HKB.out.trans (KeepBut.of_below (pw_below_drewN (Below.refl _ _) _) gi none) (.inl rfl), pw_below_drewN HBB.out _, ?_⟩
     rw [show i0 + R = i by have := HF.out; omega]
     exact HI.out
   ·have q2 : decide ((i : Int) - (i0 : Int) < most) = false := decide_eq_false hmo
    have HF : Hid (R = i - i0) := Lib.hid (by rw [HRR.out, show most.toNat - (i - i0) = 0 by omega, runF_zero]; rfl)
    go_wp2_with fail
    go_quiet (fail)
    go_wp2_with fail
    go_ret
    refine ⟨by rw [HF.out]; exact ret_sub i i0 h1 w18, HKB.out.trans (KeepBut.of_below (pw_below_drewN (Below.refl _ _) _) gi none) (.inl rfl), pw_below_drewN HBB.out _, ?_⟩
    rw [show i0 + R = i by have := HF.out; omega]
    exact HI.out
  ·have q1 : decide ((i : Int) < (kl.length : Int)) = false := decide_eq_false (by omega)
   have q1n : decide (i < kl.length) = false := decide_eq_false hlt
   have HF : Hid (R = i - i0) := Lib.hid (by rw [HRR.out, kinds_end _ _ _ (by omega)]; cases (most.toNat - (i - i0)) <;> rfl)
   go_wp2_with fail
   go_quiet (fail)
   go_wp2_with fail
   go_ret
   refine ⟨by rw [HF.out]; exact ret_sub i i0 h1 w18, HKB.out.trans (KeepBut.of_below (pw_below_drewN (Below.refl _ _) _) gi none) (.inl rfl), pw_below_drewN HBB.out _, ?_⟩
   rw [show i0 + R = i by have := HF.out; omega]
   exact HI.out
end Go.Proofs.Ytkhlfdcjgooogaa.P
