/- token: Join. -/
import Derived.Test.YtjlcbhlpibgplaaDoorTokF
namespace Go.Proofs.YtjlcbhlpibgplaaDoor.P
open Go.RowKit Go.Proofs.YtjlcbhlpibgplaaDoorW.PrintWords Go.Proofs.YtjlcbhlpibgplaaDoorW.PrintLast Go.Proofs.YtjlcbhlpibgplaaDoorW.PrintMore
set_option linter.unusedVariables false
set_option linter.unusedSimpArgs false
/-- The texts of tokens, but for the end. -/
def textsOf (l : List S30) : List ByteArray := (l.filter (fun t => t.f0 != 5)).map (·.f3)
def joinB (xs : List ByteArray) : ByteArray := ⟨(Lib.join (xs.map (·.data.toList)) [32]).toArray⟩
theorem rd_get (xs : List S30) (i : Nat) (h : i < xs.length) : rd_T30 xs (i : Int) = xs[i] := by
  simp [rd_T30, List.getD_eq_getElem?_getD, h]
theorem texts_take (l : List S30) (i : Nat) (h : i < l.length) : textsOf (l.take (i + 1)) = textsOf (l.take i) ++ if ((rd_T30 l (i : Int)).f0 != 5) = true then [(rd_T30 l (i : Int)).f3] else [] := by
  rw [rd_get l i h, List.take_add_one, List.getElem?_eq_getElem h]
  unfold textsOf
  rw [List.filter_append, List.map_append]
  simp only [Option.toList_some, List.filter_cons, List.filter_nil]
  split <;> rfl
theorem texts_le (l : List S30) : (textsOf l).length ≤ l.length := by
  unfold textsOf
  rw [List.length_map]
  exact List.length_filter_le _ _
theorem join_call (xs : List ByteArray) (v : Value) (base : Nat) (W : World) (h : Kd.R Kd.string 9 W base (fun _ => True) v xs) (hn : xs.length ≤ 100000) (hj : (Lib.join (xs.map (·.data.toList)) [32]).length ≤ 140737488355328) :
    Calls Tryd.prog 35 #[v, .string ⟨#[32]⟩] W fun e w' => e = .returned (.string (joinB xs)) ∧ Below W.heap.size W w' := by
  rcases Nat.eq_zero_or_pos xs.length with h0 | h0
  · obtain rfl : xs = [] := List.eq_nil_of_length_eq_zero h0
    obtain ⟨A, c, rfl, _, _⟩ := Kd.R_reads h
    exact (Tryd.strings_Join_none A c ⟨#[32]⟩ W).mono fun e w' ⟨he, hw⟩ => ⟨he, by rw [hw]; exact Below.refl _ _⟩
  · obtain ⟨g, cap, rfl, hb, hg, _⟩ := Kd.R_form h h0
    obtain ⟨_, hc, hC⟩ := Kd.R_reads' h
    refine (Tryd.strings_Join g 0 cap xs ⟨#[32]⟩ W (fun j x hx => ?_) hg (by omega) hc hj).mono fun e w' ⟨he, hw⟩ => ⟨he, hw⟩
    have hjl : j < xs.length := (List.getElem?_eq_some_iff.1 hx).1
    obtain ⟨ad, cs, e, _, hK, hcell⟩ := Kd.C_get hC ⟨#[]⟩ (j : Int) (by omega) (by omega)
    cases e
    have hxe : xs.getD (j : Int).toNat ⟨#[]⟩ = x := by rw [Int.toNat_natCast, List.getD_eq_getElem?_getD, hx]; rfl
    rw [hxe] at hK
    obtain rfl : cs = [.string x] := hK
    have := hcell 0 _ rfl
    rw [Int.toNat_natCast, show Kd.string.sz = 1 from rfl, Nat.mul_one, Nat.add_zero] at this
    have e : (⟨g, 0, none⟩ : Addr).add j = ⟨g, 0 + j, none⟩ := by
      unfold Addr.add
      split <;> simp_all
    rw [e] at this
    exact this
set_option maxRecDepth 100000 in
set_option maxHeartbeats 8000000 in
theorem join_is (l : List S30) (A : Option Addr) (c : Nat) (hl : l.length ≤ 100000) (hj : (Lib.join ((textsOf l).map (·.data.toList)) [32]).length ≤ 140737488355328) (w : World) (hC : Kd.C k30 w A l.length l) (hc : l.length ≤ c) :
    Calls Tryd.prog 18 #[.slice A l.length c] w fun e w' => e = .returned (.string (joinB (textsOf l))) ∧ Below w.heap.size w w' := by
  have HC := Lib.hid hC
  have HCC := Lib.hid hc
  have HJ := Lib.hid hj
  clear hC hc hj
  go_enter Tryd.func18, Tryd.ntmps18
  go_wp2_with fail
  go_loopg [3, 8] (l.length + 1) (fun kq v3 v8 w' => ∃ i : Nat, v8 = .int .i64 i ∧ i ≤ l.length ∧ Hid (i + kq = l.length + 1) ∧ Hid (Kd.R Kd.string 9 w' w.heap.size (fun _ => True) v3 (textsOf (l.take i))) ∧ Hid (Below w.heap.size w w'))
  case atStart => exact ⟨0, rfl, Nat.zero_le _, Lib.hid (by omega), Lib.hid (Kd.R_nil _ _ _ _ _), Lib.hid (Below.refl _ _)⟩
  case round =>
    obtain ⟨i, rfl, hi, HN, HR, HB⟩ := hrel
    by_cases hlt : i < l.length
    · have HC2 := Kd.C_below HC.out HB.out
      obtain ⟨ad, hA, z0, z1, z2, z3⟩ := at_T30 HC2 (i : Int) (by omega) (by omega)
      rw [Int.toNat_natCast] at z0 z1 z2 z3
      cases hA
      have htk := texts_take l i hlt
      have hlen := texts_le (l.take i)
      rw [List.length_take] at hlen
      cases h5 : ((rd_T30 l (i : Int)).f0 != 5) with
      | false =>
        rw [h5] at htk
        have HT : Hid (textsOf (l.take (i + 1)) = textsOf (l.take i)) := Lib.hid (by rw [htk]; simp)
        clear htk HC2
        go_wp2_with fail
        go_roundg (gk - 1)
        case measure => have := HN.out; omega
        case rel => exact ⟨i + 1, by norm_cast, hlt, Lib.hid (by have := HN.out; omega), Lib.hid (by rw [HT.out]; exact Kd.R_alloc HR.out _), Lib.hid (below_alloc HB.out _)⟩
      | true =>
        rw [h5] at htk
        have HT : Hid (textsOf (l.take (i + 1)) = textsOf (l.take i) ++ [(rd_T30 l (i : Int)).f3]) := Lib.hid (by rw [htk]; simp)
        clear htk HC2
        go_wp2_with (((with_reducible refine gate_builtin (b := .append) (xs := #[.tmp 15, .tmp 18]) rfl ?_); at_builtin; refine Stp.out ?_))
        unfold Stp
        refine Kd.R_append Kd.string (w0 := w) w.heap.size rfl (.tmp 15) (.tmp 18) 45 9 (.string ⟨#[]⟩) 16 rfl Tryd.underlying45 info9 rfl (by decide) (by omega) u3 (textsOf (l.take i)) (rd_T30 l (i : Int)).f3 [.string (rd_T30 l (i : Int)).f3] (fun _ => True) (fun _ => False) rfl (by rw [World.size_alloc]; rfl) rfl (fun _ hk => hk.elim) (fun _ _ => trivial) (Kd.R_alloc HR.out _) (below_alloc HB.out _) (below_alloc HB.out _).size (by omega) ?_
        intro v9 w9 ho_ hb_ hg_ hat_
        have HO := Lib.hid ho_
        have HB9 := Lib.hid hb_
        clear ho_ hb_ hg_ hat_
        go_wp2_with fail
        go_roundg (gk - 1)
        case measure => have := HN.out; omega
        case rel => exact ⟨i + 1, by norm_cast, hlt, Lib.hid (by have := HN.out; omega), Lib.hid (by rw [HT.out]; exact HO.out), HB9⟩
    · obtain rfl : i = l.length := by omega
      rw [List.take_length] at HR
      have hlen := texts_le l
      have HJC := Lib.hid (join_call (textsOf l) u3 w.heap.size wr HR.out (by omega) HJ.out)
      go_wp2_with fail
      refine HJC.out.mono ?_
      rintro e_ w1 ⟨rfl, hb_⟩
      have HB1 : Hid (Below w.heap.size w w1) := Lib.hid (below_step HB.out hb_)
      clear hb_
      go_wp2_with fail
      go_ret
      exact ⟨rfl, HB1.out⟩
end Go.Proofs.YtjlcbhlpibgplaaDoor.P
