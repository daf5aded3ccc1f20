import Derived.Test.YtkhlfdcjgooogaaVaC
set_option linter.unusedVariables false
set_option linter.unusedSimpArgs false
namespace Go.Proofs.Ytkhlfdcjgooogaa.P
open Go.RowKit Go.Proofs.YtkhlfdcjgooogaaW.PrintWords Go.Proofs.YtkhlfdcjgooogaaW.PrintLast Go.Proofs.YtkhlfdcjgooogaaW.PrintMore
structure EvS (w0 : World) (ev nd : Array Value) (acc : List (Int × Int)) (W : World) : Prop where
 x0 : W.heap[w0.heap.size]? = some (.cells ev 110 (0, 0))
 x4 : W.heap[w0.heap.size + 1]? = some (.cells #[.int .i64 0, .int .i64 0] 23 (0, 0))
 x6 : W.heap[w0.heap.size + 1 + 1]? = some (.cells nd 101 (0, 0))
 x7 : W.heap[w0.heap.size + 1 + 1 + 1]? = some (.cells (pairC acc) 141 (0, 0))
 hB : Below w0.heap.size w0 W
theorem EvS.below {w0 W W' : World} {ev nd : Array Value} {acc : List (Int × Int)} (h : EvS w0 ev nd acc W) (hb : Below W.heap.size W W') : EvS w0 ev nd acc W' :=
 ⟨blk_below h.x0 hb, blk_below h.x4 hb, blk_below h.x6 hb, blk_below h.x7 hb, below_step h.hB hb⟩
theorem EvS.put {w0 W : World} {ev nd : Array Value} {acc : List (Int × Int)} (h : EvS w0 ev nd acc W) (a b : Int) (hl : acc.length ≤ 1) :
  EvS w0 ev nd (acc ++ [(a, b)]) ((W.setCell ⟨w0.heap.size + 1 + 1 + 1, 2 * acc.length, none⟩ (.int .i64 a)).setCell ⟨w0.heap.size + 1 + 1 + 1, 2 * acc.length + 1, none⟩ (.int .i64 b)) := by
 refine ⟨blk_far (blk_far h.x0 (by simp <;> omega) _) (by simp <;> omega) _, blk_far (blk_far h.x4 (by simp <;> omega) _) (by simp <;> omega) _, blk_far (blk_far h.x6 (by simp) _) (by simp) _, ?_, (h.hB.setCell (by show w0.heap.size ≤ w0.heap.size + 1 + 1 + 1; omega) _).setCell (by show w0.heap.size ≤ w0.heap.size + 1 + 1 + 1; omega) _⟩
 refine blk_put (blk_put h.x7 _ _ rfl) _ _ ?_
 match acc, hl with
 | [], _ => rfl
 | [x], _ => rfl
theorem EvS.start (w : World) (ev nd : Array Value) : EvS w ev nd [] ((((w.alloc (.cells ev 110)).alloc (.cells #[.int .i64 0, .int .i64 0] 23)).alloc (.cells nd 101)).alloc (.cells #[.int .i64 0, .int .i64 0, .int .i64 0, .int .i64 0] 141)) := by
 have e1 : (w.alloc (.cells ev 110)).heap.size = w.heap.size + 1 := by simp
 have e2 : ((w.alloc (.cells ev 110)).alloc (.cells #[.int .i64 0, .int .i64 0] 23)).heap.size = w.heap.size + 1 + 1 := by simp
 have e3 : (((w.alloc (.cells ev 110)).alloc (.cells #[.int .i64 0, .int .i64 0] 23)).alloc (.cells nd 101)).heap.size = w.heap.size + 1 + 1 + 1 := by simp
 refine ⟨blk_alloc (blk_alloc (blk_alloc (blk_new w _) _) _) _, ?_, ?_, ?_, below_alloc (below_alloc (below_alloc (below_alloc (Below.refl _ _) _) _) _) _⟩
 ·rw [← e1]; exact blk_alloc (blk_alloc (blk_new _ _) _) _
 ·rw [← e2]; exact blk_alloc (blk_new _ _) _
 ·rw [← e3]; exact blk_new _ _
set_option maxRecDepth 100000 in
set_option maxHeartbeats 16000000 in
theorem eval_step (At : Option Addr) (ct : Nat) (ns : List S101) (root : Int) (ol : List Int) (hR : Rt ns root ol) (hrb : rtB ns root true) (An : Option Addr) (cn : Nat) (nl : List NV) (Bh : Nat) (ok : Nat → Prop) (L : List (List Int)) (g : Int → Int × Int × Int)
  (q : Int) (h0 : 0 ≤ q) (h1 : q < ns.length) (hk1 : 20 ≤ kdOf ns q) (hk2 : kdOf ns q ≤ 27) (hkn : (rd_T101 ns q).f4.length ≤ 2)
  (IH : ∀ kid ∈ (rd_T101 ns q).f4, ∀ w, EvW At ct ns An cn nl Bh ok L w → Calls Try.prog 57 #[.agg #[.slice At ns.length ct, .int .i64 root, .slice An nl.length cn, .pointer (some ⟨Bh, 0, none⟩)], .int .i64 kid] w fun e w' => e = .returned (.tuple #[.agg #[.int .i64 (g kid).1, .int .i64 (g kid).2.1], .int .i64 (g kid).2.2]) ∧ Below w.heap.size w w')
  (w : World) (hW : EvW At ct ns An cn nl Bh ok L w) (r : Int × Int × Int) (hr : r = if (kidsF g (rd_T101 ns q).f4 []).2 = 0 then opF ns ol nl L q (kidsF g (rd_T101 ns q).f4 []).1 else (0, 0, (kidsF g (rd_T101 ns q).f4 []).2)) :
  Calls Try.prog 57 #[.agg #[.slice At ns.length ct, .int .i64 root, .slice An nl.length cn, .pointer (some ⟨Bh, 0, none⟩)], .int .i64 q] w fun e w' => e = .returned (.tuple #[.agg #[.int .i64 r.1, .int .i64 r.2.1], .int .i64 r.2.2]) ∧ Below w.heap.size w w' := by
 have hmemq := rd24_mem ns q h0 h1
 have hsz := hR.sz _ hmemq
 have hkin := (hR.fit.2 _ hmemq).1
 obtain ⟨x, hx⟩ : ∃ x, x = rd_T101 ns q := ⟨_, rfl⟩
 have hk0 : kdOf ns q = (rd_T101 ns q).f0 := rfl
 have ht0 : nmOf ns q = (rd_T101 ns q).f3.data.toList := rfl
 have hn0 : nOf ns q = (rd_T101 ns q).f1 := rfl
 have hf0 : (rd_T101 ns q).f3 = x.f3 := by rw [hx]
 have hb1 : Below w.heap.size w ((w.alloc (.cells #[.slice At ns.length ct, .int .i64 root, .slice An nl.length cn, .pointer (some ⟨Bh, 0, none⟩)] 110)).alloc (.cells #[.int .i64 0, .int .i64 0] 23)) := below_alloc (below_alloc (Below.refl _ _) _) _
 have x01 := blk_alloc (blk_new w (.cells #[.slice At ns.length ct, .int .i64 root, .slice An nl.length cn, .pointer (some ⟨Bh, 0, none⟩)] 110)) (.cells #[.int .i64 0, .int .i64 0] 23)
 obtain ⟨Wb, hWb⟩ : ∃ W_, W_ = (w.alloc (.cells #[.slice At ns.length ct, .int .i64 root, .slice An nl.length cn, .pointer (some ⟨Bh, 0, none⟩)] 110)).alloc (.cells #[.int .i64 0, .int .i64 0] 23) := ⟨_, rfl⟩
 rw [← hWb] at hb1 x01
 obtain ⟨ad, A4, c4, eA, z0, z1, z2, z3, z4, l4, g4⟩ := at_T101 hW.hC q h0 h1
 replace z0 := pw_cell_below hb1 z0
 replace z1 := pw_cell_below hb1 z1
 replace z2 := pw_cell_below hb1 z2
 replace z3 := pw_cell_below hb1 z3
 replace z4 := pw_cell_below hb1 z4
 have cp0 : Wb.cell? ⟨w.heap.size, 0, none⟩ = some (.slice At ns.length ct) := (blk_cell x01 0).trans rfl
 have e0 := eq_true h0
 have e1 := eq_true h1
 rw [← hx] at z0 z1 z2 z3 z4 l4 g4 hk0 ht0 hn0 hkn IH hr hsz hkin
 obtain ⟨k, n, at_, tx, kl⟩ := x
 dsimp only at z0 z1 z2 z3 z4 l4 g4 hk0 ht0 hn0 hkn IH hr hsz hkin hf0
 have S0 := EvS.start w #[.slice At ns.length ct, .int .i64 root, .slice An nl.length cn, .pointer (some ⟨Bh, 0, none⟩)] #[.int .i64 k, .int .i64 n, .int .i64 at_, .string tx, .slice A4 kl.length c4]
 rw [← hWb] at S0
 obtain ⟨W0, hW0⟩ : ∃ W_, W_ = (Wb.alloc (.cells #[.int .i64 k, .int .i64 n, .int .i64 at_, .string tx, .slice A4 kl.length c4] 101)).alloc (.cells #[.int .i64 0, .int .i64 0, .int .i64 0, .int .i64 0] 141) := ⟨_, rfl⟩
 rw [← hW0] at S0
 have HS0 := Lib.hid S0
 have HCK := Lib.hid (fun (W : World) (hb : Below w.heap.size w W) => Kd.C_below g4 hb)
 have HW := Lib.hid (fun (W : World) (hb : Below w.heap.size w W) => hW.below hb)
 have c40 : W0.cell? ⟨w.heap.size + 1 + 1, 4, none⟩ = some (.slice A4 kl.length c4) := (blk_cell S0.x6 4).trans rfl
 have HIH := Lib.hid IH
 have HR := Lib.hid hR
 have HRB := Lib.hid hrb
 have HRR := Lib.hid hr
 have HK0 := Lib.hid hk0
 have HT0 := Lib.hid ht0
 have HN0 := Lib.hid hn0
 have HSZ := Lib.hid hsz
 have HK1 := Lib.hid hk1
 have HK2 := Lib.hid hk2
 have HF0 := Lib.hid hf0
 have HKN := Lib.hid hkin
 have HW0 := Lib.hid hW0
 rw [hW0] at c40
 rw [hWb] at z0 z1 z2 z3 z4 cp0 c40
 have HWb := Lib.hid hWb
 cases eA
 clear hb1 x01 S0 hW0 hWb IH hR hrb hr hk0 ht0 hn0 hsz hk1 hk2 hf0 hkin hx hmemq hW g4
 go_enter Try.func57, Try.ntmps57
 go_wp2_with fail
 rw [← HWb.out, ← HW0.out]
 clear z0 z1 z2 z3 z4 cp0 c40 e0 e1
 go_loopg [26] (kl.length + 1) (fun kq v26 W => ∃ (j : Nat) (acc : List (Int × Int)), v26 = .int .i64 j ∧ j ≤ kl.length ∧ Hid (j + kq = kl.length + 1) ∧ Hid (acc.length = j) ∧ Hid (kidsF g kl [] = kidsF g (kl.drop j) acc) ∧ Hid (EvS w #[.slice (some ad) ns.length ct, .int .i64 root, .slice An nl.length cn, .pointer (some ⟨Bh, 0, none⟩)] #[.int .i64 k, .int .i64 n, .int .i64 at_, .string tx, .slice A4 kl.length c4] acc W))
 case atStart => exact ⟨0, [], rfl, Nat.zero_le _, Lib.hid (by omega), Lib.hid rfl, Lib.hid (by rw [List.drop_zero]), HS0⟩
 case round =>
  obtain ⟨j, acc, rfl, hj, HN, HL, HF, HS⟩ := hrel
  by_cases hlt : j < kl.length
  ·obtain ⟨adK, eK, y0⟩ := Kd.at_int (HCK.out wr HS.out.hB) (j : Int) (by omega) (by omega)
   have hq : rd kl (j : Int) = kl[j] := by simp [rd, hlt]
   rw [hq, Int.toNat_natCast] at y0
   have hst : kidsF g kl [] = if (g kl[j]).2.2 = 0 then kidsF g (kl.drop (j + 1)) (acc ++ [((g kl[j]).1, (g kl[j]).2.1)]) else ([], (g kl[j]).2.2) := by rw [HF.out, List.drop_eq_getElem_cons hlt, kidsF]
   have hih := HIH.out kl[j] (List.getElem_mem hlt) wr (HW.out wr HS.out.hB)
   obtain ⟨kv, hkv⟩ : ∃ kv, kv = kl[j] := ⟨_, rfl⟩
   rw [← hkv] at y0 hst hih
   obtain ⟨ra, hra⟩ : ∃ ra, ra = (g kv).1 := ⟨_, rfl⟩
   obtain ⟨rb, hrb⟩ : ∃ rb, rb = (g kv).2.1 := ⟨_, rfl⟩
   obtain ⟨rc, hrc⟩ : ∃ rc, rc = (g kv).2.2 := ⟨_, rfl⟩
   rw [← hra, ← hrb, ← hrc] at hst hih
   have HST := Lib.hid hst
   have HX := Lib.hid hih
   have ev0 : wr.cell? ⟨w.heap.size, 0, none⟩ = some (.slice (some ad) ns.length ct) := (blk_cell HS.out.x0 0).trans rfl
   have ev1 : wr.cell? ⟨w.heap.size, 1, none⟩ = some (.int .i64 root) := (blk_cell HS.out.x0 1).trans rfl
   have ev2 : wr.cell? ⟨w.heap.size, 2, none⟩ = some (.slice An nl.length cn) := (blk_cell HS.out.x0 2).trans rfl
   have ev3 : wr.cell? ⟨w.heap.size, 3, none⟩ = some (.pointer (some ⟨Bh, 0, none⟩)) := (blk_cell HS.out.x0 3).trans rfl
   cases eK
   clear hq hkv hst hih hra hrb hrc
   go_wp2_with fail
   refine HX.out.mono ?_
   rintro e_ W2 ⟨rfl, hb_⟩
   have HS2 := Lib.hid (HS.out.below hb_)
   clear hb_ ev0 ev1 ev2 ev3 y0
   have HS3 := Lib.hid (HS2.out.below (below_alloc (Below.refl W2.heap.size W2) (.cells #[.int .i64 ra, .int .i64 rb] 23)))
   by_cases hrc : rc = 0
   ·have hst := HST.out
    rw [if_pos hrc] at hst
    have HST2 := Lib.hid hst
    subst hrc
    clear hst HST
    have hl := HL.out
    have HP := Lib.hid (HS3.out.put ra rb (by omega))
    rw [hl] at HP
    have hj2 : j = 0 ∨ j = 1 := by omega
    have x7 := HS3.out.x7
    clear hl
    rcases hj2 with rfl | rfl
    ·have d0 : (W2.alloc (.cells #[.int .i64 ra, .int .i64 rb] 23)).cell? ⟨w.heap.size + 1 + 1 + 1, 0, none⟩ = some (.int .i64 (acc.getD 0 (0, 0)).1) := (blk_cell x7 0).trans rfl
     have d1 : (W2.alloc (.cells #[.int .i64 ra, .int .i64 rb] 23)).cell? ⟨w.heap.size + 1 + 1 + 1, 1, none⟩ = some (.int .i64 (acc.getD 0 (0, 0)).2) := (blk_cell x7 1).trans rfl
     obtain ⟨o0, ho0⟩ : ∃ o0, o0 = (acc.getD 0 (0, 0)).1 := ⟨_, rfl⟩
     obtain ⟨o1, ho1⟩ : ∃ o1, o1 = (acc.getD 0 (0, 0)).2 := ⟨_, rfl⟩
     rw [← ho0] at d0
     rw [← ho1] at d1
     have f0 := blk_frozen x7 0
     have f1 := blk_frozen x7 1
     clear x7 ho0 ho1
     go_wp2_with fail
     go_roundg (gk - 1)
     case measure => have := HN.out; omega
     case rel => exact ⟨1, _, rfl, hlt, Lib.hid (by have := HN.out; omega), Lib.hid (by rw [List.length_append, HL.out]; rfl), HST2, HP⟩
    ·have d0 : (W2.alloc (.cells #[.int .i64 ra, .int .i64 rb] 23)).cell? ⟨w.heap.size + 1 + 1 + 1, 2, none⟩ = some (.int .i64 (acc.getD 1 (0, 0)).1) := (blk_cell x7 2).trans rfl
     have d1 : (W2.alloc (.cells #[.int .i64 ra, .int .i64 rb] 23)).cell? ⟨w.heap.size + 1 + 1 + 1, 3, none⟩ = some (.int .i64 (acc.getD 1 (0, 0)).2) := (blk_cell x7 3).trans rfl
     obtain ⟨o0, ho0⟩ : ∃ o0, o0 = (acc.getD 1 (0, 0)).1 := ⟨_, rfl⟩
     obtain ⟨o1, ho1⟩ : ∃ o1, o1 = (acc.getD 1 (0, 0)).2 := ⟨_, rfl⟩
     rw [← ho0] at d0
     rw [← ho1] at d1
     have f0 := blk_frozen x7 2
     have f1 := blk_frozen x7 3
     clear x7 ho0 ho1
     go_wp2_with fail
     go_roundg (gk - 1)
     case measure => have := HN.out; omega
     case rel => exact ⟨2, _, rfl, hlt, Lib.hid (by have := HN.out; omega), Lib.hid (by rw [List.length_append, HL.out]; rfl), HST2, HP⟩
   ·have hst := HST.out
    rw [if_neg hrc] at hst
    have hrr := HRR.out
    rw [hst] at hrr
    dsimp only at hrr
    rw [if_neg hrc] at hrr
    subst hrr
    clear hst HST HRR
    have x4 := HS3.out.x4
    have d0 : (W2.alloc (.cells #[.int .i64 ra, .int .i64 rb] 23)).cell? ⟨w.heap.size + 1, 0, none⟩ = some (.int .i64 0) := (blk_cell x4 0).trans rfl
    have d1 : (W2.alloc (.cells #[.int .i64 ra, .int .i64 rb] 23)).cell? ⟨w.heap.size + 1, 1, none⟩ = some (.int .i64 0) := (blk_cell x4 1).trans rfl
    have f0 := blk_frozen x4 0
    have f1 := blk_frozen x4 1
    go_wp2_with fail
    refine bodyPost_ret (results_ct rfl _ _ (w.heap.size + 1) 23 #[.int .i64 (0), .int .i64 (0)] (0, 0) _ rfl (blk_put (blk_put x4 0 _ rfl) 1 _ rfl) Try.underlying23 rfl (by kernel_rfl)) rfl ?_
    exact ⟨rfl, (HS3.out.hB.setCell (by show w.heap.size ≤ w.heap.size + 1; omega) _).setCell (by show w.heap.size ≤ w.heap.size + 1; omega) _⟩
  ·obtain rfl : j = kl.length := by omega
   have hff := HF.out
   rw [List.drop_length, kidsF] at hff
   have hrr := HRR.out
   rw [hff] at hrr
   dsimp only at hrr
   rw [if_pos rfl] at hrr
   have HRV := Lib.hid hrr
   clear hff hrr HRR HF HIH
   have hop := HRV.out
   unfold opF at hop
   rw [HK0.out, HN0.out, HT0.out, HF0.out] at hop
   have hk8 : k = 20 ∨ k = 21 ∨ k = 22 ∨ k = 23 ∨ k = 24 ∨ k = 25 ∨ k = 26 ∨ k = 27 := by have a := HK1.out; have b := HK2.out; have c := HK0.out; omega
   have HSR := HS
   have HEW := Lib.hid (HW.out wr HS.out.hB)
   clear HRV HL HN hj
   rcases hk8 with rfl | rfl | rfl | rfl | rfl | rfl | rfl | rfl
   ·rw [if_pos rfl] at hop
    have nd0 : wr.cell? ⟨w.heap.size + 1 + 1, 0, none⟩ = some (.int .i64 20) := (blk_cell HS.out.x6 0).trans rfl
    subst hop
    have nd1 : wr.cell? ⟨w.heap.size + 1 + 1, 1, none⟩ = some (.int .i64 n) := (blk_cell HS.out.x6 1).trans rfl
    go_wp2_with fail
    refine (value_number.calls n 1 n wr rfl).mono ?_
    rintro e_ W2 ⟨rfl, hb_⟩
    have HS2 := Lib.hid (HS.out.below hb_)
    clear hb_ nd0 nd1
    have d0 : W2.cell? ⟨w.heap.size + 1, 0, none⟩ = some (.int .i64 0) := (blk_cell HS2.out.x4 0).trans rfl
    have d1 : W2.cell? ⟨w.heap.size + 1, 1, none⟩ = some (.int .i64 0) := (blk_cell HS2.out.x4 1).trans rfl
    have f0 := blk_frozen HS2.out.x4 0
    have f1 := blk_frozen HS2.out.x4 1
    go_wp2_with fail
    refine bodyPost_ret (results_ct rfl _ _ (w.heap.size + 1) 23 #[.int .i64 (1), .int .i64 (n)] (0, 0) _ rfl (blk_put (blk_put HS2.out.x4 0 _ rfl) 1 _ rfl) Try.underlying23 rfl (by kernel_rfl)) rfl ?_
    exact ⟨rfl, (HS2.out.hB.setCell (by show w.heap.size ≤ w.heap.size + 1; omega) _).setCell (by show w.heap.size ≤ w.heap.size + 1; omega) _⟩
   ·rw [if_neg (by decide), if_pos rfl] at hop
    have nd0 : wr.cell? ⟨w.heap.size + 1 + 1, 0, none⟩ = some (.int .i64 21) := (blk_cell HS.out.x6 0).trans rfl
    subst hop
    have nd1 : wr.cell? ⟨w.heap.size + 1 + 1, 1, none⟩ = some (.int .i64 n) := (blk_cell HS.out.x6 1).trans rfl
    have d0 : wr.cell? ⟨w.heap.size + 1, 0, none⟩ = some (.int .i64 0) := (blk_cell HS.out.x4 0).trans rfl
    have d1 : wr.cell? ⟨w.heap.size + 1, 1, none⟩ = some (.int .i64 0) := (blk_cell HS.out.x4 1).trans rfl
    have f0 := blk_frozen HS.out.x4 0
    have f1 := blk_frozen HS.out.x4 1
    go_wp2_with fail
    refine bodyPost_ret (results_ct rfl _ _ (w.heap.size + 1) 23 #[.int .i64 (2), .int .i64 (n)] (0, 0) _ rfl (blk_put (blk_put HS.out.x4 0 _ rfl) 1 _ rfl) Try.underlying23 rfl (by kernel_rfl)) rfl ?_
    exact ⟨rfl, (HS.out.hB.setCell (by show w.heap.size ≤ w.heap.size + 1; omega) _).setCell (by show w.heap.size ≤ w.heap.size + 1; omega) _⟩
   ·rw [if_neg (by decide), if_neg (by decide), if_pos rfl] at hop
    have nd0 : wr.cell? ⟨w.heap.size + 1 + 1, 0, none⟩ = some (.int .i64 22) := (blk_cell HS.out.x6 0).trans rfl
    obtain ⟨nv, hnv⟩ : ∃ nv, nv = nameF nl tx.data.toList := ⟨_, rfl⟩
    have HX := Lib.hid (name_is (some ad) ns.length ct root An cn nl HEW.out.hnl HEW.out.hcn Bh tx wr HEW.out.hN)
    rw [← hnv] at hop HX
    subst hop
    clear hnv
    have nd3 : wr.cell? ⟨w.heap.size + 1 + 1, 3, none⟩ = some (.string tx) := (blk_cell HS.out.x6 3).trans rfl
    have ev0 : wr.cell? ⟨w.heap.size, 0, none⟩ = some (.slice (some ad) ns.length ct) := (blk_cell HS.out.x0 0).trans rfl
    have ev1 : wr.cell? ⟨w.heap.size, 1, none⟩ = some (.int .i64 root) := (blk_cell HS.out.x0 1).trans rfl
    have ev2 : wr.cell? ⟨w.heap.size, 2, none⟩ = some (.slice An nl.length cn) := (blk_cell HS.out.x0 2).trans rfl
    have ev3 : wr.cell? ⟨w.heap.size, 3, none⟩ = some (.pointer (some ⟨Bh, 0, none⟩)) := (blk_cell HS.out.x0 3).trans rfl
    go_wp2_with fail
    refine HX.out.mono ?_
    rintro e_ W2 ⟨rfl, hb_⟩
    have HS2 := Lib.hid (HS.out.below hb_)
    clear hb_ nd0 nd3 ev0 ev1 ev2 ev3
    have d0 : W2.cell? ⟨w.heap.size + 1, 0, none⟩ = some (.int .i64 0) := (blk_cell HS2.out.x4 0).trans rfl
    have d1 : W2.cell? ⟨w.heap.size + 1, 1, none⟩ = some (.int .i64 0) := (blk_cell HS2.out.x4 1).trans rfl
    have f0 := blk_frozen HS2.out.x4 0
    have f1 := blk_frozen HS2.out.x4 1
    go_wp2_with fail
    refine bodyPost_ret (results_ct rfl _ _ (w.heap.size + 1) 23 #[.int .i64 (nv.1), .int .i64 (nv.2)] (0, 0) _ rfl (blk_put (blk_put HS2.out.x4 0 _ rfl) 1 _ rfl) Try.underlying23 rfl (by kernel_rfl)) rfl ?_
    exact ⟨rfl, (HS2.out.hB.setCell (by show w.heap.size ≤ w.heap.size + 1; omega) _).setCell (by show w.heap.size ≤ w.heap.size + 1; omega) _⟩
   ·rw [if_neg (by decide), if_neg (by decide), if_neg (by decide), if_pos rfl] at hop
    have nd0 : wr.cell? ⟨w.heap.size + 1 + 1, 0, none⟩ = some (.int .i64 23) := (blk_cell HS.out.x6 0).trans rfl
    obtain ⟨nv, hnv⟩ : ∃ nv, nv = nameF nl tx.data.toList := ⟨_, rfl⟩
    obtain ⟨v0, hv0⟩ : ∃ v0, v0 = (acc.getD 0 (0, 0)).1 := ⟨_, rfl⟩
    obtain ⟨v1, hv1⟩ : ∃ v1, v1 = (acc.getD 0 (0, 0)).2 := ⟨_, rfl⟩
    rw [← hnv, ← hv0, ← hv1] at hop
    have HV0 := Lib.hid hv0
    have HV1 := Lib.hid hv1
    have HX := Lib.hid (fun (W : World) (hb : Below wr.heap.size wr W) => name_is (some ad) ns.length ct root An cn nl HEW.out.hnl HEW.out.hcn Bh tx W (Kd.C_below HEW.out.hN hb))
    rw [← hnv] at HX
    clear hnv hv0 hv1
    have HG := Lib.hid (fun (W : World) (hb : Below wr.heap.size wr W) => hget nv.1 nv.2 v0 v1 (HEW.out.below hb).hH HEW.out.hL)
    obtain ⟨g0, hg0⟩ : ∃ g0, g0 = getK L nv.1 nv.2 v0 v1 := ⟨_, rfl⟩
    obtain ⟨g1, hg1⟩ : ∃ g1, g1 = getN L nv.1 nv.2 v0 v1 := ⟨_, rfl⟩
    obtain ⟨g2, hg2⟩ : ∃ g2, g2 = wrongF L nv.1 nv.2 v0 v1 := ⟨_, rfl⟩
    rw [← hg0, ← hg1, ← hg2] at hop HG
    subst hop
    clear hg0 hg1 hg2
    go_wp2_with fail
    have sa0 : wr.cell? ⟨w.heap.size, 0, none⟩ = some (.slice (some ad) ns.length ct) := (blk_cell HS.out.x0 0).trans rfl
    have sa1 : wr.cell? ⟨w.heap.size, 1, none⟩ = some (.int .i64 root) := (blk_cell HS.out.x0 1).trans rfl
    have sa2 : wr.cell? ⟨w.heap.size, 2, none⟩ = some (.slice An nl.length cn) := (blk_cell HS.out.x0 2).trans rfl
    have sa3 : wr.cell? ⟨w.heap.size, 3, none⟩ = some (.pointer (some ⟨Bh, 0, none⟩)) := (blk_cell HS.out.x0 3).trans rfl
    have sa4 : wr.cell? ⟨w.heap.size + 1 + 1, 3, none⟩ = some (.string tx) := (blk_cell HS.out.x6 3).trans rfl
    have sa5 : wr.cell? ⟨w.heap.size + 1 + 1 + 1, 0, none⟩ = some (.int .i64 v0) := (blk_cell HS.out.x7 0).trans (by rw [pairC, ← HV0.out]; rfl)
    have sa6 : wr.cell? ⟨w.heap.size + 1 + 1 + 1, 1, none⟩ = some (.int .i64 v1) := (blk_cell HS.out.x7 1).trans (by rw [pairC, ← HV1.out]; rfl)
    refine start_ (n := 13) (S := fun w' => w'.cell? ⟨w.heap.size, 0, none⟩ = some (.slice (some ad) ns.length ct) ∧ w'.cell? ⟨w.heap.size, 1, none⟩ = some (.int .i64 root) ∧ w'.cell? ⟨w.heap.size, 2, none⟩ = some (.slice An nl.length cn) ∧ w'.cell? ⟨w.heap.size, 3, none⟩ = some (.pointer (some ⟨Bh, 0, none⟩)) ∧ w'.cell? ⟨w.heap.size + 1 + 1, 3, none⟩ = some (.string tx) ∧ w'.cell? ⟨w.heap.size + 1 + 1 + 1, 0, none⟩ = some (.int .i64 v0) ∧ w'.cell? ⟨w.heap.size + 1 + 1 + 1, 1, none⟩ = some (.int .i64 v1)) (ds := [11]) #[false, false, false, false, false, false, false, false, false, false, false, false, false] (by kernel_rfl) rfl rfl ⟨cel_drew sa0, cel_drew sa1, cel_drew sa2, cel_drew sa3, cel_drew sa4, cel_drew sa5, cel_drew sa6⟩ (fun hHeld => ?_)
    refine pure_ (i := 0) (N := some 65) (v := ?_) (a' := ?_) #[true, false, false, false, false, false, false, false, false, false, false, false, false] rfl rfl (by kernel_rfl) (fun _ _ _ h => h) (Or.inl ⟨by rfl, ?_⟩) ?_ ?_
    rotate_left
    ·intro w'
     go_simp
     with_reducible rfl
    rotate_left
    ·simp only [Act.put, List.setIfInBounds_toArray, List.set_cons_zero, List.set_cons_succ, i64_w, i32_w]
     rfl
    refine pure_ (i := 3) (N := some 68) (v := ?_) (a' := ?_) #[true, false, false, true, false, false, false, false, false, false, false, false, false] rfl rfl (by kernel_rfl) (fun _ _ _ h => h) (Or.inl ⟨by rfl, ?_⟩) ?_ ?_
    rotate_left
    ·intro w'
     go_simp
     with_reducible rfl
    rotate_left
    ·simp only [Act.put, List.setIfInBounds_toArray, List.set_cons_zero, List.set_cons_succ, i64_w, i32_w]
     rfl
    refine pure_ (i := 6) (N := some 71) (v := ?_) (a' := ?_) #[true, false, false, true, false, false, true, false, false, false, false, false, false] rfl rfl (by kernel_rfl) (fun _ _ _ h => h) (Or.inl ⟨by rfl, ?_⟩) ?_ ?_
    rotate_left
    ·intro w'
     go_simp
     with_reducible rfl
    rotate_left
    ·simp only [Act.put, List.setIfInBounds_toArray, List.set_cons_zero, List.set_cons_succ, i64_w, i32_w]
     rfl
    refine take_ (i := 1) (N := some 66) (v := ?_) (a' := ?_) #[true, true, false, true, false, false, true, false, false, false, false, false, false] rfl rfl (by kernel_rfl) (fun _ _ _ h => h) (Or.inl ⟨by rfl, ?_⟩) hHeld ?_ ?_
    rotate_left
    ·rintro w' ⟨s0, s1, s2, s3, s4, s5, s6⟩
     go_simp
     with_reducible rfl
    rotate_left
    ·simp only [Act.put, List.setIfInBounds_toArray, List.set_cons_zero, List.set_cons_succ, i64_w, i32_w]
     rfl
    refine take_ (i := 2) (N := some 67) (v := ?_) (a' := ?_) #[true, true, true, true, false, false, true, false, false, false, false, false, false] rfl rfl (by kernel_rfl) (fun _ _ _ h => h) (Or.inl ⟨by rfl, ?_⟩) hHeld ?_ ?_
    rotate_left
    ·rintro w' ⟨s0, s1, s2, s3, s4, s5, s6⟩
     go_simp
     with_reducible rfl
    rotate_left
    ·simp only [Act.put, List.setIfInBounds_toArray, List.set_cons_zero, List.set_cons_succ, i64_w, i32_w]
     rfl
    refine take_ (i := 4) (N := some 69) (v := ?_) (a' := ?_) #[true, true, true, true, true, false, true, false, false, false, false, false, false] rfl rfl (by kernel_rfl) (fun _ _ _ h => h) (Or.inl ⟨by rfl, ?_⟩) hHeld ?_ ?_
    rotate_left
    ·rintro w' ⟨s0, s1, s2, s3, s4, s5, s6⟩
     go_simp
     with_reducible rfl
    rotate_left
    ·simp only [Act.put, List.setIfInBounds_toArray, List.set_cons_zero, List.set_cons_succ, i64_w, i32_w]
     rfl
    refine take_ (i := 7) (N := some 72) (v := ?_) (a' := ?_) #[true, true, true, true, true, false, true, true, false, false, false, false, false] rfl rfl (by kernel_rfl) (fun _ _ _ h => h) (Or.inl ⟨by rfl, ?_⟩) hHeld ?_ ?_
    rotate_left
    ·rintro w' ⟨s0, s1, s2, s3, s4, s5, s6⟩
     go_simp
     with_reducible rfl
    rotate_left
    ·simp only [Act.put, List.setIfInBounds_toArray, List.set_cons_zero, List.set_cons_succ, i64_w, i32_w]
     rfl
    refine one_ (i := 5) (N := some 70) #[true, true, true, true, true, true, true, true, false, false, false, false, false] rfl rfl (by kernel_rfl) (by decide) (fun K hK => ?_)
    refine goes_ Try.func85 (by kernel_rfl) rfl #[.agg #[.slice (some ad) ns.length ct, .int .i64 root, .slice An nl.length cn, .pointer (some ⟨Bh, 0, none⟩)], .string tx] (by rfl) rfl rfl (by simp only [List.map_toArray, List.map_cons, List.map_nil]; rfl) ?_
    with_reducible refine (HX.out _ (below_drew (Below.refl _ _))).mono ?_
    rintro e_ W2 ⟨rfl, hb_⟩
    refine ⟨_, rfl, ?_⟩
    have HS2 := Lib.hid (HS.out.below (below_step (below_drew (Below.refl _ _)) hb_))
    have HB2 := Lib.hid (below_step (below_drew (Below.refl wr.heap.size wr)) hb_)
    clear hb_
    have sb0 : W2.cell? ⟨w.heap.size, 0, none⟩ = some (.slice (some ad) ns.length ct) := (blk_cell HS2.out.x0 0).trans rfl
    have sb1 : W2.cell? ⟨w.heap.size, 1, none⟩ = some (.int .i64 root) := (blk_cell HS2.out.x0 1).trans rfl
    have sb2 : W2.cell? ⟨w.heap.size, 2, none⟩ = some (.slice An nl.length cn) := (blk_cell HS2.out.x0 2).trans rfl
    have sb3 : W2.cell? ⟨w.heap.size, 3, none⟩ = some (.pointer (some ⟨Bh, 0, none⟩)) := (blk_cell HS2.out.x0 3).trans rfl
    have sb4 : W2.cell? ⟨w.heap.size + 1 + 1, 3, none⟩ = some (.string tx) := (blk_cell HS2.out.x6 3).trans rfl
    have sb5 : W2.cell? ⟨w.heap.size + 1 + 1 + 1, 0, none⟩ = some (.int .i64 v0) := (blk_cell HS2.out.x7 0).trans (by rw [pairC, ← HV0.out]; rfl)
    have sb6 : W2.cell? ⟨w.heap.size + 1 + 1 + 1, 1, none⟩ = some (.int .i64 v1) := (blk_cell HS2.out.x7 1).trans (by rw [pairC, ← HV1.out]; rfl)
    refine hK.out _ _ ⟨sb0, sb1, sb2, sb3, sb4, sb5, sb6⟩ (fun hHeld => ?_)
    clear hK K
    refine norm_ (a' := ?_) ?_ ?_
    rotate_left
    ·show Act.put _ (some 70) _ = _
     simp only [Act.put, List.setIfInBounds_toArray, List.set_cons_zero, List.set_cons_succ, i64_w, i32_w]
     rfl
    refine one_ (i := 8) (N := some 73) #[true, true, true, true, true, true, true, true, true, false, false, false, false] rfl rfl (by kernel_rfl) (by decide) (fun K hK => ?_)
    refine goes_ Try.func21 (by kernel_rfl) rfl #[.pointer (some ⟨Bh, 0, none⟩), .agg #[.int .i64 nv.1, .int .i64 nv.2], .agg #[.int .i64 v0, .int .i64 v1]] (by rfl) rfl rfl (by simp only [List.map_toArray, List.map_cons, List.map_nil]; rfl) ?_
    with_reducible refine (HG.out _ HB2.out).mono ?_
    rintro e_ W3 ⟨rfl, hb_⟩
    refine ⟨_, rfl, ?_⟩
    have HS3 := Lib.hid (HS2.out.below hb_)
    clear hb_
    have sc0 : W3.cell? ⟨w.heap.size, 0, none⟩ = some (.slice (some ad) ns.length ct) := (blk_cell HS3.out.x0 0).trans rfl
    have sc1 : W3.cell? ⟨w.heap.size, 1, none⟩ = some (.int .i64 root) := (blk_cell HS3.out.x0 1).trans rfl
    have sc2 : W3.cell? ⟨w.heap.size, 2, none⟩ = some (.slice An nl.length cn) := (blk_cell HS3.out.x0 2).trans rfl
    have sc3 : W3.cell? ⟨w.heap.size, 3, none⟩ = some (.pointer (some ⟨Bh, 0, none⟩)) := (blk_cell HS3.out.x0 3).trans rfl
    have sc4 : W3.cell? ⟨w.heap.size + 1 + 1, 3, none⟩ = some (.string tx) := (blk_cell HS3.out.x6 3).trans rfl
    have sc5 : W3.cell? ⟨w.heap.size + 1 + 1 + 1, 0, none⟩ = some (.int .i64 v0) := (blk_cell HS3.out.x7 0).trans (by rw [pairC, ← HV0.out]; rfl)
    have sc6 : W3.cell? ⟨w.heap.size + 1 + 1 + 1, 1, none⟩ = some (.int .i64 v1) := (blk_cell HS3.out.x7 1).trans (by rw [pairC, ← HV1.out]; rfl)
    refine hK.out _ _ ⟨sc0, sc1, sc2, sc3, sc4, sc5, sc6⟩ (fun hHeld => ?_)
    clear hK K
    refine norm_ (a' := ?_) ?_ ?_
    rotate_left
    ·show Act.put _ (some 73) _ = _
     simp only [Act.put, List.setIfInBounds_toArray, List.set_cons_zero, List.set_cons_succ, i64_w, i32_w]
     rfl
    refine pure_ (i := 9) (N := some 74) (v := ?_) (a' := ?_) #[true, true, true, true, true, true, true, true, true, true, false, false, false] rfl rfl (by kernel_rfl) (fun _ _ _ h => h) (Or.inl ⟨by rfl, ?_⟩) ?_ ?_
    rotate_left
    ·intro w'
     go_simp
     with_reducible rfl
    rotate_left
    ·simp only [Act.put, List.setIfInBounds_toArray, List.set_cons_zero, List.set_cons_succ, i64_w, i32_w]
     rfl
    refine pure_ (i := 10) (N := some 75) (v := ?_) (a' := ?_) #[true, true, true, true, true, true, true, true, true, true, true, false, false] rfl rfl (by kernel_rfl) (fun _ _ _ h => h) (Or.inl ⟨by rfl, ?_⟩) ?_ ?_
    rotate_left
    ·intro w'
     go_simp
     with_reducible rfl
    rotate_left
    ·simp only [Act.put, List.setIfInBounds_toArray, List.set_cons_zero, List.set_cons_succ, i64_w, i32_w]
     rfl
    refine last_ (i := 11) (N := none) #[true, true, true, true, true, true, true, true, true, true, true, true, false] rfl rfl (by kernel_rfl) (by decide) (fun K hK => ?_)
    have d0 : W3.cell? ⟨w.heap.size + 1, 0, none⟩ = some (.int .i64 0) := (blk_cell HS3.out.x4 0).trans rfl
    have d1 : W3.cell? ⟨w.heap.size + 1, 1, none⟩ = some (.int .i64 0) := (blk_cell HS3.out.x4 1).trans rfl
    have f0 := blk_frozen HS3.out.x4 0
    have f1 := blk_frozen HS3.out.x4 1
    refine skip_ (w1 := ?_) (by rfl) rfl ?_ ?_
    rotate_left
    ·go_simp
     rfl
    refine hK.out _ _ ?_
    clear hK K
    refine pure_ (i := 12) (N := some 5) (v := ?_) (a' := ?_) #[true, true, true, true, true, true, true, true, true, true, true, true, true] rfl rfl (by kernel_rfl) (fun _ _ _ h => h) (Or.inl ⟨by rfl, ?_⟩) ?_ ?_
    rotate_left
    ·intro w'
     go_simp
     with_reducible rfl
    rotate_left
    ·simp only [Act.put, List.setIfInBounds_toArray, List.set_cons_zero, List.set_cons_succ, i64_w, i32_w]
     rfl
    refine done_ (by kernel_rfl) ?_
    go_wp2_with fail
    refine bodyPost_ret (results_ct rfl _ _ (w.heap.size + 1) 23 #[.int .i64 (g0), .int .i64 (g1)] (0, 0) _ rfl (blk_put (blk_put HS3.out.x4 0 _ rfl) 1 _ rfl) Try.underlying23 rfl (by kernel_rfl)) rfl ?_
    exact ⟨rfl, (HS3.out.hB.setCell (by show w.heap.size ≤ w.heap.size + 1; omega) _).setCell (by show w.heap.size ≤ w.heap.size + 1; omega) _⟩
   ·rw [if_neg (by decide), if_neg (by decide), if_neg (by decide), if_neg (by decide), if_pos rfl] at hop
    have nd0 : wr.cell? ⟨w.heap.size + 1 + 1, 0, none⟩ = some (.int .i64 24) := (blk_cell HS.out.x6 0).trans rfl
    obtain ⟨nv, hnv⟩ : ∃ nv, nv = nameF nl tx.data.toList := ⟨_, rfl⟩
    rw [← hnv] at hop
    have HX := Lib.hid (fun (W : World) (hb : Below wr.heap.size wr W) => name_is (some ad) ns.length ct root An cn nl HEW.out.hnl HEW.out.hcn Bh tx W (Kd.C_below HEW.out.hN hb))
    rw [← hnv] at HX
    clear hnv
    have HG := Lib.hid (fun (W : World) (hb : Below wr.heap.size wr W) => hlen nv.1 nv.2 (HEW.out.below hb).hH HEW.out.hL)
    obtain ⟨g0, hg0⟩ : ∃ g0, g0 = lenF L nv.1 nv.2 := ⟨_, rfl⟩
    rw [← hg0] at hop HG
    subst hop
    clear hg0
    go_wp2_with fail
    have sa0 : wr.cell? ⟨w.heap.size, 0, none⟩ = some (.slice (some ad) ns.length ct) := (blk_cell HS.out.x0 0).trans rfl
    have sa1 : wr.cell? ⟨w.heap.size, 1, none⟩ = some (.int .i64 root) := (blk_cell HS.out.x0 1).trans rfl
    have sa2 : wr.cell? ⟨w.heap.size, 2, none⟩ = some (.slice An nl.length cn) := (blk_cell HS.out.x0 2).trans rfl
    have sa3 : wr.cell? ⟨w.heap.size, 3, none⟩ = some (.pointer (some ⟨Bh, 0, none⟩)) := (blk_cell HS.out.x0 3).trans rfl
    have sa4 : wr.cell? ⟨w.heap.size + 1 + 1, 3, none⟩ = some (.string tx) := (blk_cell HS.out.x6 3).trans rfl
    refine start_ (n := 10) (S := fun w' => w'.cell? ⟨w.heap.size, 0, none⟩ = some (.slice (some ad) ns.length ct) ∧ w'.cell? ⟨w.heap.size, 1, none⟩ = some (.int .i64 root) ∧ w'.cell? ⟨w.heap.size, 2, none⟩ = some (.slice An nl.length cn) ∧ w'.cell? ⟨w.heap.size, 3, none⟩ = some (.pointer (some ⟨Bh, 0, none⟩)) ∧ w'.cell? ⟨w.heap.size + 1 + 1, 3, none⟩ = some (.string tx)) (ds := [8]) #[false, false, false, false, false, false, false, false, false, false] (by kernel_rfl) rfl rfl ⟨cel_drew sa0, cel_drew sa1, cel_drew sa2, cel_drew sa3, cel_drew sa4⟩ (fun hHeld => ?_)
    refine pure_ (i := 0) (N := some 78) (v := ?_) (a' := ?_) #[true, false, false, false, false, false, false, false, false, false] rfl rfl (by kernel_rfl) (fun _ _ _ h => h) (Or.inl ⟨by rfl, ?_⟩) ?_ ?_
    rotate_left
    ·intro w'
     go_simp
     with_reducible rfl
    rotate_left
    ·simp only [Act.put, List.setIfInBounds_toArray, List.set_cons_zero, List.set_cons_succ, i64_w, i32_w]
     rfl
    refine pure_ (i := 3) (N := some 81) (v := ?_) (a' := ?_) #[true, false, false, true, false, false, false, false, false, false] rfl rfl (by kernel_rfl) (fun _ _ _ h => h) (Or.inl ⟨by rfl, ?_⟩) ?_ ?_
    rotate_left
    ·intro w'
     go_simp
     with_reducible rfl
    rotate_left
    ·simp only [Act.put, List.setIfInBounds_toArray, List.set_cons_zero, List.set_cons_succ, i64_w, i32_w]
     rfl
    refine take_ (i := 1) (N := some 79) (v := ?_) (a' := ?_) #[true, true, false, true, false, false, false, false, false, false] rfl rfl (by kernel_rfl) (fun _ _ _ h => h) (Or.inl ⟨by rfl, ?_⟩) hHeld ?_ ?_
    rotate_left
    ·rintro w' ⟨s0, s1, s2, s3, s4⟩
     go_simp
     with_reducible rfl
    rotate_left
    ·simp only [Act.put, List.setIfInBounds_toArray, List.set_cons_zero, List.set_cons_succ, i64_w, i32_w]
     rfl
    refine take_ (i := 2) (N := some 80) (v := ?_) (a' := ?_) #[true, true, true, true, false, false, false, false, false, false] rfl rfl (by kernel_rfl) (fun _ _ _ h => h) (Or.inl ⟨by rfl, ?_⟩) hHeld ?_ ?_
    rotate_left
    ·rintro w' ⟨s0, s1, s2, s3, s4⟩
     go_simp
     with_reducible rfl
    rotate_left
    ·simp only [Act.put, List.setIfInBounds_toArray, List.set_cons_zero, List.set_cons_succ, i64_w, i32_w]
     rfl
    refine take_ (i := 4) (N := some 82) (v := ?_) (a' := ?_) #[true, true, true, true, true, false, false, false, false, false] rfl rfl (by kernel_rfl) (fun _ _ _ h => h) (Or.inl ⟨by rfl, ?_⟩) hHeld ?_ ?_
    rotate_left
    ·rintro w' ⟨s0, s1, s2, s3, s4⟩
     go_simp
     with_reducible rfl
    rotate_left
    ·simp only [Act.put, List.setIfInBounds_toArray, List.set_cons_zero, List.set_cons_succ, i64_w, i32_w]
     rfl
    refine one_ (i := 5) (N := some 83) #[true, true, true, true, true, true, false, false, false, false] rfl rfl (by kernel_rfl) (by decide) (fun K hK => ?_)
    refine goes_ Try.func85 (by kernel_rfl) rfl #[.agg #[.slice (some ad) ns.length ct, .int .i64 root, .slice An nl.length cn, .pointer (some ⟨Bh, 0, none⟩)], .string tx] (by rfl) rfl rfl (by simp only [List.map_toArray, List.map_cons, List.map_nil]; rfl) ?_
    with_reducible refine (HX.out _ (below_drew (Below.refl _ _))).mono ?_
    rintro e_ W2 ⟨rfl, hb_⟩
    refine ⟨_, rfl, ?_⟩
    have HS2 := Lib.hid (HS.out.below (below_step (below_drew (Below.refl _ _)) hb_))
    have HB2 := Lib.hid (below_step (below_drew (Below.refl wr.heap.size wr)) hb_)
    clear hb_
    have sb0 : W2.cell? ⟨w.heap.size, 0, none⟩ = some (.slice (some ad) ns.length ct) := (blk_cell HS2.out.x0 0).trans rfl
    have sb1 : W2.cell? ⟨w.heap.size, 1, none⟩ = some (.int .i64 root) := (blk_cell HS2.out.x0 1).trans rfl
    have sb2 : W2.cell? ⟨w.heap.size, 2, none⟩ = some (.slice An nl.length cn) := (blk_cell HS2.out.x0 2).trans rfl
    have sb3 : W2.cell? ⟨w.heap.size, 3, none⟩ = some (.pointer (some ⟨Bh, 0, none⟩)) := (blk_cell HS2.out.x0 3).trans rfl
    have sb4 : W2.cell? ⟨w.heap.size + 1 + 1, 3, none⟩ = some (.string tx) := (blk_cell HS2.out.x6 3).trans rfl
    refine hK.out _ _ ⟨sb0, sb1, sb2, sb3, sb4⟩ (fun hHeld => ?_)
    clear hK K
    refine norm_ (a' := ?_) ?_ ?_
    rotate_left
    ·show Act.put _ (some 83) _ = _
     simp only [Act.put, List.setIfInBounds_toArray, List.set_cons_zero, List.set_cons_succ, i64_w, i32_w]
     rfl
    refine one_ (i := 6) (N := some 84) #[true, true, true, true, true, true, true, false, false, false] rfl rfl (by kernel_rfl) (by decide) (fun K hK => ?_)
    refine goes_ Try.func22 (by kernel_rfl) rfl #[.pointer (some ⟨Bh, 0, none⟩), .agg #[.int .i64 nv.1, .int .i64 nv.2]] (by rfl) rfl rfl (by simp only [List.map_toArray, List.map_cons, List.map_nil]; rfl) ?_
    with_reducible refine (HG.out _ HB2.out).mono ?_
    rintro e_ W3 ⟨rfl, hb_⟩
    refine ⟨_, rfl, ?_⟩
    have HS3 := Lib.hid (HS2.out.below hb_)
    clear hb_
    have sc0 : W3.cell? ⟨w.heap.size, 0, none⟩ = some (.slice (some ad) ns.length ct) := (blk_cell HS3.out.x0 0).trans rfl
    have sc1 : W3.cell? ⟨w.heap.size, 1, none⟩ = some (.int .i64 root) := (blk_cell HS3.out.x0 1).trans rfl
    have sc2 : W3.cell? ⟨w.heap.size, 2, none⟩ = some (.slice An nl.length cn) := (blk_cell HS3.out.x0 2).trans rfl
    have sc3 : W3.cell? ⟨w.heap.size, 3, none⟩ = some (.pointer (some ⟨Bh, 0, none⟩)) := (blk_cell HS3.out.x0 3).trans rfl
    have sc4 : W3.cell? ⟨w.heap.size + 1 + 1, 3, none⟩ = some (.string tx) := (blk_cell HS3.out.x6 3).trans rfl
    refine hK.out _ _ ⟨sc0, sc1, sc2, sc3, sc4⟩ (fun hHeld => ?_)
    clear hK K
    refine norm_ (a' := ?_) ?_ ?_
    rotate_left
    ·show Act.put _ (some 84) _ = _
     simp only [Act.put, List.setIfInBounds_toArray, List.set_cons_zero, List.set_cons_succ, i64_w, i32_w]
     rfl
    refine one_ (i := 7) (N := some 85) #[true, true, true, true, true, true, true, true, false, false] rfl rfl (by kernel_rfl) (by decide) (fun K hK => ?_)
    refine goes_ Try.func33 (by kernel_rfl) rfl #[.int .i64 g0] (by rfl) rfl rfl (by simp only [List.map_toArray, List.map_cons, List.map_nil]; rfl) ?_
    with_reducible refine (value_number.calls g0 1 g0 _ rfl).mono ?_
    rintro e_ W4 ⟨rfl, hb_⟩
    refine ⟨_, rfl, ?_⟩
    have HS4 := Lib.hid (HS3.out.below hb_)
    clear hb_
    have sd0 : W4.cell? ⟨w.heap.size, 0, none⟩ = some (.slice (some ad) ns.length ct) := (blk_cell HS4.out.x0 0).trans rfl
    have sd1 : W4.cell? ⟨w.heap.size, 1, none⟩ = some (.int .i64 root) := (blk_cell HS4.out.x0 1).trans rfl
    have sd2 : W4.cell? ⟨w.heap.size, 2, none⟩ = some (.slice An nl.length cn) := (blk_cell HS4.out.x0 2).trans rfl
    have sd3 : W4.cell? ⟨w.heap.size, 3, none⟩ = some (.pointer (some ⟨Bh, 0, none⟩)) := (blk_cell HS4.out.x0 3).trans rfl
    have sd4 : W4.cell? ⟨w.heap.size + 1 + 1, 3, none⟩ = some (.string tx) := (blk_cell HS4.out.x6 3).trans rfl
    refine hK.out _ _ ⟨sd0, sd1, sd2, sd3, sd4⟩ (fun hHeld => ?_)
    clear hK K
    refine norm_ (a' := ?_) ?_ ?_
    rotate_left
    ·show Act.put _ (some 85) _ = _
     simp only [Act.put, List.setIfInBounds_toArray, List.set_cons_zero, List.set_cons_succ, i64_w, i32_w]
     rfl
    refine last_ (i := 8) (N := none) #[true, true, true, true, true, true, true, true, true, false] rfl rfl (by kernel_rfl) (by decide) (fun K hK => ?_)
    have d0 : W4.cell? ⟨w.heap.size + 1, 0, none⟩ = some (.int .i64 0) := (blk_cell HS4.out.x4 0).trans rfl
    have d1 : W4.cell? ⟨w.heap.size + 1, 1, none⟩ = some (.int .i64 0) := (blk_cell HS4.out.x4 1).trans rfl
    have f0 := blk_frozen HS4.out.x4 0
    have f1 := blk_frozen HS4.out.x4 1
    refine skip_ (w1 := ?_) (by rfl) rfl ?_ ?_
    rotate_left
    ·go_simp
     rfl
    refine hK.out _ _ ?_
    clear hK K
    refine pure_ (i := 9) (N := some 5) (v := ?_) (a' := ?_) #[true, true, true, true, true, true, true, true, true, true] rfl rfl (by kernel_rfl) (fun _ _ _ h => h) (Or.inl ⟨by rfl, ?_⟩) ?_ ?_
    rotate_left
    ·intro w'
     go_simp
     with_reducible rfl
    rotate_left
    ·simp only [Act.put, List.setIfInBounds_toArray, List.set_cons_zero, List.set_cons_succ, i64_w, i32_w]
     rfl
    refine done_ (by kernel_rfl) ?_
    go_wp2_with fail
    refine bodyPost_ret (results_ct rfl _ _ (w.heap.size + 1) 23 #[.int .i64 (1), .int .i64 (g0)] (0, 0) _ rfl (blk_put (blk_put HS4.out.x4 0 _ rfl) 1 _ rfl) Try.underlying23 rfl (by kernel_rfl)) rfl ?_
    exact ⟨rfl, (HS4.out.hB.setCell (by show w.heap.size ≤ w.heap.size + 1; omega) _).setCell (by show w.heap.size ≤ w.heap.size + 1; omega) _⟩
   ·rw [if_neg (by decide), if_neg (by decide), if_neg (by decide), if_neg (by decide), if_neg (by decide), if_pos rfl] at hop
    have nd0 : wr.cell? ⟨w.heap.size + 1 + 1, 0, none⟩ = some (.int .i64 25) := (blk_cell HS.out.x6 0).trans rfl
    have HX := Lib.hid (Procedure_is (some ad) ct ns root ol HR.out HRB.out tx HSZ.out wr HEW.out.hC HEW.out.hct HEW.out.hE)
    have hpr := procF_range ns tx.data.toList
    have hnn := HR.out.fit.1
    obtain ⟨pp, hpp⟩ : ∃ pp, pp = procF ns tx.data.toList := ⟨_, rfl⟩
    rw [← hpp] at hop HX hpr
    have hp0 : -1 ≤ pp := by omega
    have hp1 : pp ≤ 4000 := by omega
    subst hop
    clear hpp hpr
    have nd3 : wr.cell? ⟨w.heap.size + 1 + 1, 3, none⟩ = some (.string tx) := (blk_cell HS.out.x6 3).trans rfl
    have ev0 : wr.cell? ⟨w.heap.size, 0, none⟩ = some (.slice (some ad) ns.length ct) := (blk_cell HS.out.x0 0).trans rfl
    have ev1 : wr.cell? ⟨w.heap.size, 1, none⟩ = some (.int .i64 root) := (blk_cell HS.out.x0 1).trans rfl
    have ev2 : wr.cell? ⟨w.heap.size, 2, none⟩ = some (.slice An nl.length cn) := (blk_cell HS.out.x0 2).trans rfl
    have ev3 : wr.cell? ⟨w.heap.size, 3, none⟩ = some (.pointer (some ⟨Bh, 0, none⟩)) := (blk_cell HS.out.x0 3).trans rfl
    go_wp2_with fail
    refine HX.out.mono ?_
    rintro e_ W2 ⟨rfl, hb_⟩
    have HS2 := Lib.hid (HS.out.below hb_)
    clear hb_ nd0 nd3 ev0 ev1 ev2 ev3
    have d0 : W2.cell? ⟨w.heap.size + 1, 0, none⟩ = some (.int .i64 0) := (blk_cell HS2.out.x4 0).trans rfl
    have d1 : W2.cell? ⟨w.heap.size + 1, 1, none⟩ = some (.int .i64 0) := (blk_cell HS2.out.x4 1).trans rfl
    have f0 := blk_frozen HS2.out.x4 0
    have f1 := blk_frozen HS2.out.x4 1
    go_wp2_with fail
    refine bodyPost_ret (results_ct rfl _ _ (w.heap.size + 1) 23 #[.int .i64 (4), .int .i64 (pp + 1)] (0, 0) _ rfl (blk_put (blk_put HS2.out.x4 0 _ rfl) 1 _ rfl) Try.underlying23 rfl (by kernel_rfl)) rfl ?_
    exact ⟨rfl, (HS2.out.hB.setCell (by show w.heap.size ≤ w.heap.size + 1; omega) _).setCell (by show w.heap.size ≤ w.heap.size + 1; omega) _⟩
   ·rw [if_neg (by decide), if_neg (by decide), if_neg (by decide), if_neg (by decide), if_neg (by decide), if_neg (by decide), if_pos rfl] at hop
    have nd0 : wr.cell? ⟨w.heap.size + 1 + 1, 0, none⟩ = some (.int .i64 26) := (blk_cell HS.out.x6 0).trans rfl
    obtain ⟨v0, hv0⟩ : ∃ v0, v0 = (acc.getD 0 (0, 0)).1 := ⟨_, rfl⟩
    obtain ⟨v1, hv1⟩ : ∃ v1, v1 = (acc.getD 0 (0, 0)).2 := ⟨_, rfl⟩
    rw [← hv0, ← hv1] at hop
    obtain ⟨u, hu⟩ : ∃ u, u = unF tx v0 v1 := ⟨_, rfl⟩
    rw [← hu] at hop
    have hun := un_some tx v0 v1
    rw [← hu] at hun
    obtain ⟨u1, u2, u3⟩ := u
    have HUN := Lib.hid hun
    have HV0 := Lib.hid hv0
    have HV1 := Lib.hid hv1
    have HOP := Lib.hid hop
    obtain ⟨te, hte⟩ : ∃ te, te = exprF ns ol q := ⟨_, rfl⟩
    have HTY := Lib.hid (fun (W : World) (hb : Below wr.heap.size wr W) => Type_is (some ad) ct ns root ol HR.out HRB.out q h0 h1 W (HEW.out.below hb).hC HEW.out.hct (HEW.out.below hb).hE)
    rw [← hte] at hop HTY
    have HOPT := Lib.hid hop
    dsimp only at HOPT
    clear hun hu hop hte HOP hv0 hv1
    have nd3 : wr.cell? ⟨w.heap.size + 1 + 1, 3, none⟩ = some (.string tx) := (blk_cell HS.out.x6 3).trans rfl
    have ar0 : wr.cell? ⟨w.heap.size + 1 + 1 + 1, 0, none⟩ = some (.int .i64 v0) := (blk_cell HS.out.x7 0).trans (by rw [pairC, ← HV0.out]; rfl)
    have ar1 : wr.cell? ⟨w.heap.size + 1 + 1 + 1, 1, none⟩ = some (.int .i64 v1) := (blk_cell HS.out.x7 1).trans (by rw [pairC, ← HV1.out]; rfl)
    go_wp2_with fail
    refine (value_Unary.calls 9 tx v0 v1 u1 u2 u3 wr HUN.out).mono ?_
    rintro e_ W2 ⟨rfl, hb_⟩
    have HS2 := Lib.hid (HS.out.below hb_)
    have HB2 := Lib.hid hb_
    clear hb_ nd0 nd3 ar0 ar1
    have HS3 := Lib.hid (HS2.out.below (below_alloc (Below.refl W2.heap.size W2) (.cells #[.int .i64 u1, .int .i64 u2] 23)))
    have HB3 := Lib.hid (below_step HB2.out (below_alloc (Below.refl W2.heap.size W2) (.cells #[.int .i64 u1, .int .i64 u2] 23)))
    cases u3 with
    | true =>
     have hop := HOPT.out
     rw [if_pos rfl] at hop
     subst hop
     clear HOPT
     have d0 : (W2.alloc (.cells #[.int .i64 u1, .int .i64 u2] 23)).cell? ⟨w.heap.size + 1, 0, none⟩ = some (.int .i64 0) := (blk_cell HS3.out.x4 0).trans rfl
     have d1 : (W2.alloc (.cells #[.int .i64 u1, .int .i64 u2] 23)).cell? ⟨w.heap.size + 1, 1, none⟩ = some (.int .i64 0) := (blk_cell HS3.out.x4 1).trans rfl
     have f0 := blk_frozen HS3.out.x4 0
     have f1 := blk_frozen HS3.out.x4 1
     go_wp2_with fail
     refine bodyPost_ret (results_ct rfl _ _ (w.heap.size + 1) 23 #[.int .i64 (u1), .int .i64 (u2)] (0, 0) _ rfl (blk_put (blk_put HS3.out.x4 0 _ rfl) 1 _ rfl) Try.underlying23 rfl (by kernel_rfl)) rfl ?_
     exact ⟨rfl, (HS3.out.hB.setCell (by show w.heap.size ≤ w.heap.size + 1; omega) _).setCell (by show w.heap.size ≤ w.heap.size + 1; omega) _⟩
    | false =>
     have hop := HOPT.out
     rw [if_neg (by decide)] at hop
     subst hop
     clear HOPT
     have ev0 : (W2.alloc (.cells #[.int .i64 u1, .int .i64 u2] 23)).cell? ⟨w.heap.size, 0, none⟩ = some (.slice (some ad) ns.length ct) := (blk_cell HS3.out.x0 0).trans rfl
     have ev1 : (W2.alloc (.cells #[.int .i64 u1, .int .i64 u2] 23)).cell? ⟨w.heap.size, 1, none⟩ = some (.int .i64 root) := (blk_cell HS3.out.x0 1).trans rfl
     have ev2 : (W2.alloc (.cells #[.int .i64 u1, .int .i64 u2] 23)).cell? ⟨w.heap.size, 2, none⟩ = some (.slice An nl.length cn) := (blk_cell HS3.out.x0 2).trans rfl
     have ev3 : (W2.alloc (.cells #[.int .i64 u1, .int .i64 u2] 23)).cell? ⟨w.heap.size, 3, none⟩ = some (.pointer (some ⟨Bh, 0, none⟩)) := (blk_cell HS3.out.x0 3).trans rfl
     go_wp2_with fail
     refine (HTY.out _ HB3.out).mono ?_
     rintro e_ W4 ⟨rfl, hb_⟩
     have HS4 := Lib.hid (HS3.out.below hb_)
     clear hb_ ev0 ev1 ev2 ev3
     go_wp2_with fail
     refine (value_Zero.calls te te 0 W4 rfl).mono ?_
     rintro e_ W5 ⟨rfl, hb_⟩
     have HS5 := Lib.hid (HS4.out.below hb_)
     clear hb_
     have d0 : W5.cell? ⟨w.heap.size + 1, 0, none⟩ = some (.int .i64 0) := (blk_cell HS5.out.x4 0).trans rfl
     have d1 : W5.cell? ⟨w.heap.size + 1, 1, none⟩ = some (.int .i64 0) := (blk_cell HS5.out.x4 1).trans rfl
     have f0 := blk_frozen HS5.out.x4 0
     have f1 := blk_frozen HS5.out.x4 1
     go_wp2_with fail
     refine bodyPost_ret (results_ct rfl _ _ (w.heap.size + 1) 23 #[.int .i64 (te), .int .i64 (0)] (0, 0) _ rfl (blk_put (blk_put HS5.out.x4 0 _ rfl) 1 _ rfl) Try.underlying23 rfl (by kernel_rfl)) rfl ?_
     exact ⟨rfl, (HS5.out.hB.setCell (by show w.heap.size ≤ w.heap.size + 1; omega) _).setCell (by show w.heap.size ≤ w.heap.size + 1; omega) _⟩
   ·rw [if_neg (by decide), if_neg (by decide), if_neg (by decide), if_neg (by decide), if_neg (by decide), if_neg (by decide), if_neg (by decide)] at hop
    have nd0 : wr.cell? ⟨w.heap.size + 1 + 1, 0, none⟩ = some (.int .i64 27) := (blk_cell HS.out.x6 0).trans rfl
    obtain ⟨v0, hv0⟩ : ∃ v0, v0 = (acc.getD 0 (0, 0)).1 := ⟨_, rfl⟩
    obtain ⟨v1, hv1⟩ : ∃ v1, v1 = (acc.getD 0 (0, 0)).2 := ⟨_, rfl⟩
    obtain ⟨v2, hv2⟩ : ∃ v2, v2 = (acc.getD 1 (0, 0)).1 := ⟨_, rfl⟩
    obtain ⟨v3, hv3⟩ : ∃ v3, v3 = (acc.getD 1 (0, 0)).2 := ⟨_, rfl⟩
    rw [← hv0, ← hv1, ← hv2, ← hv3] at hop
    obtain ⟨u, hu⟩ : ∃ u, u = binF tx v0 v1 v2 v3 := ⟨_, rfl⟩
    rw [← hu] at hop
    have hun := bin_some tx v0 v1 v2 v3
    rw [← hu] at hun
    obtain ⟨u1, u2, u4, u3⟩ := u
    have HUN := Lib.hid hun
    have HV0 := Lib.hid hv0
    have HV1 := Lib.hid hv1
    have HV2 := Lib.hid hv2
    have HV3 := Lib.hid hv3
    have HOP := Lib.hid hop
    obtain ⟨te, hte⟩ : ∃ te, te = exprF ns ol q := ⟨_, rfl⟩
    have HTY := Lib.hid (fun (W : World) (hb : Below wr.heap.size wr W) => Type_is (some ad) ct ns root ol HR.out HRB.out q h0 h1 W (HEW.out.below hb).hC HEW.out.hct (HEW.out.below hb).hE)
    rw [← hte] at hop HTY
    have HOPT := Lib.hid hop
    dsimp only at HOPT
    clear hun hu hop hte HOP hv0 hv1 hv2 hv3
    have nd3 : wr.cell? ⟨w.heap.size + 1 + 1, 3, none⟩ = some (.string tx) := (blk_cell HS.out.x6 3).trans rfl
    have ar0 : wr.cell? ⟨w.heap.size + 1 + 1 + 1, 0, none⟩ = some (.int .i64 v0) := (blk_cell HS.out.x7 0).trans (by rw [pairC, ← HV0.out]; rfl)
    have ar1 : wr.cell? ⟨w.heap.size + 1 + 1 + 1, 1, none⟩ = some (.int .i64 v1) := (blk_cell HS.out.x7 1).trans (by rw [pairC, ← HV1.out]; rfl)
    have ar2 : wr.cell? ⟨w.heap.size + 1 + 1 + 1, 2, none⟩ = some (.int .i64 v2) := (blk_cell HS.out.x7 2).trans (by rw [pairC, ← HV2.out]; rfl)
    have ar3 : wr.cell? ⟨w.heap.size + 1 + 1 + 1, 3, none⟩ = some (.int .i64 v3) := (blk_cell HS.out.x7 3).trans (by rw [pairC, ← HV3.out]; rfl)
    go_wp2_with fail
    refine (value_Binary.calls 9 tx v0 v1 v2 v3 u1 u2 u4 u3 wr HUN.out).mono ?_
    rintro e_ W2 ⟨rfl, hb_⟩
    have HS2 := Lib.hid (HS.out.below hb_)
    have HB2 := Lib.hid hb_
    clear hb_ nd0 nd3 ar0 ar1 ar2 ar3
    have HS3 := Lib.hid (HS2.out.below (below_alloc (Below.refl W2.heap.size W2) (.cells #[.int .i64 u1, .int .i64 u2] 23)))
    have HB3 := Lib.hid (below_step HB2.out (below_alloc (Below.refl W2.heap.size W2) (.cells #[.int .i64 u1, .int .i64 u2] 23)))
    cases u3 with
    | true =>
     have hop := HOPT.out
     rw [if_pos rfl] at hop
     subst hop
     clear HOPT
     have d0 : (W2.alloc (.cells #[.int .i64 u1, .int .i64 u2] 23)).cell? ⟨w.heap.size + 1, 0, none⟩ = some (.int .i64 0) := (blk_cell HS3.out.x4 0).trans rfl
     have d1 : (W2.alloc (.cells #[.int .i64 u1, .int .i64 u2] 23)).cell? ⟨w.heap.size + 1, 1, none⟩ = some (.int .i64 0) := (blk_cell HS3.out.x4 1).trans rfl
     have f0 := blk_frozen HS3.out.x4 0
     have f1 := blk_frozen HS3.out.x4 1
     go_wp2_with fail
     refine bodyPost_ret (results_ct rfl _ _ (w.heap.size + 1) 23 #[.int .i64 (u1), .int .i64 (u2)] (0, 0) _ rfl (blk_put (blk_put HS3.out.x4 0 _ rfl) 1 _ rfl) Try.underlying23 rfl (by kernel_rfl)) rfl ?_
     exact ⟨rfl, (HS3.out.hB.setCell (by show w.heap.size ≤ w.heap.size + 1; omega) _).setCell (by show w.heap.size ≤ w.heap.size + 1; omega) _⟩
    | false =>
     have hop := HOPT.out
     rw [if_neg (by decide)] at hop
     subst hop
     clear HOPT
     have ev0 : (W2.alloc (.cells #[.int .i64 u1, .int .i64 u2] 23)).cell? ⟨w.heap.size, 0, none⟩ = some (.slice (some ad) ns.length ct) := (blk_cell HS3.out.x0 0).trans rfl
     have ev1 : (W2.alloc (.cells #[.int .i64 u1, .int .i64 u2] 23)).cell? ⟨w.heap.size, 1, none⟩ = some (.int .i64 root) := (blk_cell HS3.out.x0 1).trans rfl
     have ev2 : (W2.alloc (.cells #[.int .i64 u1, .int .i64 u2] 23)).cell? ⟨w.heap.size, 2, none⟩ = some (.slice An nl.length cn) := (blk_cell HS3.out.x0 2).trans rfl
     have ev3 : (W2.alloc (.cells #[.int .i64 u1, .int .i64 u2] 23)).cell? ⟨w.heap.size, 3, none⟩ = some (.pointer (some ⟨Bh, 0, none⟩)) := (blk_cell HS3.out.x0 3).trans rfl
     go_wp2_with fail
     refine (HTY.out _ HB3.out).mono ?_
     rintro e_ W4 ⟨rfl, hb_⟩
     have HS4 := Lib.hid (HS3.out.below hb_)
     clear hb_ ev0 ev1 ev2 ev3
     go_wp2_with fail
     refine (value_Zero.calls te te 0 W4 rfl).mono ?_
     rintro e_ W5 ⟨rfl, hb_⟩
     have HS5 := Lib.hid (HS4.out.below hb_)
     clear hb_
     have d0 : W5.cell? ⟨w.heap.size + 1, 0, none⟩ = some (.int .i64 0) := (blk_cell HS5.out.x4 0).trans rfl
     have d1 : W5.cell? ⟨w.heap.size + 1, 1, none⟩ = some (.int .i64 0) := (blk_cell HS5.out.x4 1).trans rfl
     have f0 := blk_frozen HS5.out.x4 0
     have f1 := blk_frozen HS5.out.x4 1
     go_wp2_with fail
     refine bodyPost_ret (results_ct rfl _ _ (w.heap.size + 1) 23 #[.int .i64 (te), .int .i64 (0)] (0, 0) _ rfl (blk_put (blk_put HS5.out.x4 0 _ rfl) 1 _ rfl) Try.underlying23 rfl (by kernel_rfl)) rfl ?_
     exact ⟨rfl, (HS5.out.hB.setCell (by show w.heap.size ≤ w.heap.size + 1; omega) _).setCell (by show w.heap.size ≤ w.heap.size + 1; omega) _⟩
theorem exB_iff (k : Int) : exB k = true ↔ 20 ≤ k ∧ k ≤ 27 := by simp [exB]
theorem ex_kids {ns : List S101} (hA : AllOk ns) {i : Int} (h0 : 0 ≤ i) (h1 : i < ns.length) (hk1 : 20 ≤ kdOf ns i) (hk2 : kdOf ns i ≤ 27) : (rd_T101 ns i).f4.length ≤ 2 ∧ ∀ k ∈ (rd_T101 ns i).f4, 20 ≤ kdOf ns k ∧ kdOf ns k ≤ 27 := by
 by_cases h : kdOf ns i = 23 ∨ kdOf ns i = 26
 ·have := kids_one hA h0 h1 (by omega)
  exact ⟨by omega, fun k hk => (exB_iff _).1 (this.2 k hk)⟩
 ·by_cases h27 : kdOf ns i = 27
  ·have := kids_two hA h0 h1 (by omega)
   exact ⟨by omega, fun k hk => (exB_iff _).1 (this.2 k hk)⟩
  ·rw [kids_leaf hA h0 h1 (by omega)]
   exact ⟨by simp, fun k hk => by simp at hk⟩
theorem Rt.dn {ns : List S101} {root : Int} {ol : List Int} (h : Rt ns root ol) {i : Int} (h0 : 0 ≤ i) (h1 : i < ns.length) : ∀ k ∈ (rd_T101 ns i).f4, 0 ≤ k ∧ k < i := fun k hk => by
 obtain ⟨kf, ps, _, h2, _⟩ := h.par
 obtain ⟨j, rfl⟩ := Int.eq_ofNat_of_zero_le h0
 have hj : j < ns.length := by omega
 rw [rdT24 ns j hj] at hk
 exact h2.dn j hj k hk
theorem eval_is (At : Option Addr) (ct : Nat) (ns : List S101) (root : Int) (ol : List Int) (hR : Rt ns root ol) (hrb : rtB ns root true) (An : Option Addr) (cn : Nat) (nl : List NV) (Bh : Nat) (ok : Nat → Prop) (L : List (List Int)) :
  ∀ (f : Nat) (q : Int), 0 ≤ q → q < ns.length → q < f → 20 ≤ kdOf ns q → kdOf ns q ≤ 27 → ∀ w, EvW At ct ns An cn nl Bh ok L w →
  Calls Try.prog 57 #[.agg #[.slice At ns.length ct, .int .i64 root, .slice An nl.length cn, .pointer (some ⟨Bh, 0, none⟩)], .int .i64 q] w fun e w' => e = .returned (.tuple #[.agg #[.int .i64 (evalF ns ol nl L f q).1, .int .i64 (evalF ns ol nl L f q).2.1], .int .i64 (evalF ns ol nl L f q).2.2]) ∧ Below w.heap.size w w'
 | 0, q, h0, h1, hf, _, _, w, _ => by omega
 | f + 1, q, h0, h1, hf, hk1, hk2, w, hW => by
  have hx := ex_kids hR.ok h0 h1 hk1 hk2
  exact eval_step At ct ns root ol hR hrb An cn nl Bh ok L (evalF ns ol nl L f) q h0 h1 hk1 hk2 hx.1 (fun kid hkid w' hW' => by
   have hd := hR.dn h0 h1 kid hkid
   exact eval_is At ct ns root ol hR hrb An cn nl Bh ok L f kid hd.1 (by omega) (by omega) (hx.2 kid hkid).1 (hx.2 kid hkid).2 w' hW') w hW _ rfl
set_option maxRecDepth 100000 in
set_option maxHeartbeats 8000000 in
theorem Eval_yes (At : Option Addr) (ct : Nat) (ns : List S101) (root : Int) (ol : List Int) (hR : Rt ns root ol) (hrb : rtB ns root true) (hck : chkF ns ol = 0) (An : Option Addr) (cn : Nat) (nl : List NV) (Bh : Nat) (ok : Nat → Prop) (L : List (List Int)) (q : Int) (h0 : 0 ≤ q) (h1 : q < ns.length) (hk1 : 20 ≤ kdOf ns q) (hk2 : kdOf ns q ≤ 27) (w : World) (hW : EvW At ct ns An cn nl Bh ok L w) :
  Calls Try.prog 31 #[.agg #[.slice At ns.length ct, .int .i64 root], .int .i64 q, .slice An nl.length cn, .pointer (some ⟨Bh, 0, none⟩)] w fun e w' => e = .returned (.tuple #[.agg #[.int .i64 (evalF ns ol nl L ns.length q).1, .int .i64 (evalF ns ol nl L ns.length q).2.1], .int .i64 (evalF ns ol nl L ns.length q).2.2]) ∧ Below w.heap.size w w' := by
 have hb0 : Below w.heap.size w ((w.alloc (.cells #[.slice At ns.length ct, .int .i64 root] 69)).alloc (.cells #[.int .i64 0, .int .i64 0] 23)) := below_alloc (below_alloc (Below.refl _ _) _) _
 have x0 := blk_alloc (blk_new w (.cells #[.slice At ns.length ct, .int .i64 root] 69)) (.cells #[.int .i64 0, .int .i64 0] 23)
 have x1 := blk_new (w.alloc (.cells #[.slice At ns.length ct, .int .i64 root] 69)) (.cells #[.int .i64 0, .int .i64 0] 23)
 rw [show (w.alloc (.cells #[.slice At ns.length ct, .int .i64 root] 69)).heap.size = w.heap.size + 1 from by simp] at x1
 obtain ⟨W0, hW0⟩ : ∃ W0, W0 = (w.alloc (.cells #[.slice At ns.length ct, .int .i64 root] 69)).alloc (.cells #[.int .i64 0, .int .i64 0] 23) := ⟨_, rfl⟩
 rw [← hW0] at hb0 x0 x1
 have HB0 := Lib.hid hb0
 have X0 := Lib.hid x0
 have X1 := Lib.hid x1
 have HW0 := Lib.hid hW0
 have HW := Lib.hid hW
 have HC := Lib.hid (Check_yes At ct ns root ol hR hrb W0 (hW.below hb0).hC hW.hct (hW.below hb0).hE)
 rw [hck] at HC
 have HEV := Lib.hid (fun (W : World) (hb : Below w.heap.size w W) => eval_is At ct ns root ol hR hrb An cn nl Bh ok L ns.length q h0 h1 h1 hk1 hk2 W (hW.below hb))
 obtain ⟨r, hr⟩ : ∃ r, r = evalF ns ol nl L ns.length q := ⟨_, rfl⟩
 rw [← hr] at HEV ⊢
 obtain ⟨k, hk⟩ : ∃ k, k = kdOf ns q := ⟨_, rfl⟩
 rw [← hk] at hk1 hk2
 have HK := Lib.hid hk
 clear hb0 x0 x1 hW0 hW hr hck hR hrb hk
 go_enter Try.func31, Try.ntmps31
 go_wp2_with fail
 rw [← HW0.out]
 refine HC.out.mono ?_
 rintro e_ W1 ⟨a, rfl, hb_⟩
 have HB1 := Lib.hid (below_step HB0.out hb_)
 have X01 := Lib.hid (blk_below X0.out hb_)
 have X11 := Lib.hid (blk_below X1.out hb_)
 clear hb_
 have c0 : W1.cell? ⟨w.heap.size, 0, none⟩ = some (.slice At ns.length ct) := (blk_cell X01.out 0).trans rfl
 have c1 : W1.cell? ⟨w.heap.size, 1, none⟩ = some (.int .i64 root) := (blk_cell X01.out 1).trans rfl
 obtain ⟨ad, A4, c4, eA, z0, z1, z2, z3, z4, l4, g4⟩ := at_T101 (HW.out.below HB1.out).hC q h0 h1
 have hk0 : k = (rd_T101 ns q).f0 := HK.out
 rw [← hk0] at z0
 have d0 : decide (q < 0) = false := decide_eq_false (by omega)
 have d1 : decide ((ns.length : Int) ≤ q) = false := decide_eq_false (by omega)
 have d2 : decide (k < 20) = false := decide_eq_false (by omega)
 have d3 : decide (27 < k) = false := decide_eq_false (by omega)
 have e0 := eq_true h0
 have e1 := eq_true h1
 cases eA
 clear z1 z2 z3 z4 l4 g4 hk0
 go_wp2_with fail
 refine (HEV.out W1 HB1.out).mono ?_
 rintro e_ W2 ⟨rfl, hb_⟩
 have HB2 := Lib.hid (below_step HB1.out hb_)
 have X12 := Lib.hid (blk_below X11.out hb_)
 clear hb_ c0 c1 z0
 have f0 : W2.cell? ⟨w.heap.size + 1, 0, none⟩ = some (.int .i64 0) := (blk_cell X12.out 0).trans rfl
 have f1 : W2.cell? ⟨w.heap.size + 1, 1, none⟩ = some (.int .i64 0) := (blk_cell X12.out 1).trans rfl
 have f2 := blk_frozen X12.out 0
 have f3 := blk_frozen X12.out 1
 go_wp2_with fail
 refine bodyPost_ret (results_ct rfl _ _ (w.heap.size + 1) 23 #[.int .i64 r.1, .int .i64 r.2.1] (0, 0) _ rfl (blk_put (blk_put X12.out 0 _ rfl) 1 _ rfl) Try.underlying23 rfl (by kernel_rfl)) rfl ?_
 exact ⟨rfl, (HB2.out.setCell (by show w.heap.size ≤ w.heap.size + 1; omega) _).setCell (by show w.heap.size ≤ w.heap.size + 1; omega) _⟩
end Go.Proofs.Ytkhlfdcjgooogaa.P
