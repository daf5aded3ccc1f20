import Derived.Test.YtkhlfdcjgooogaaTyJ
set_option linter.unusedVariables false
set_option linter.unusedSimpArgs false
namespace Go.Proofs.Ytkhlfdcjgooogaa.P
open Go.RowKit Go.Proofs.YtkhlfdcjgooogaaW.PrintWords Go.Proofs.YtkhlfdcjgooogaaW.PrintLast Go.Proofs.YtkhlfdcjgooogaaW.PrintMore
def callT (ns : List S101) (ol : List Int) (q : Int) (tx : Nm) (kl want : List Int) (answer : Int) : Int :=
 if (fitsF ns ol (kl.drop 1) want && (decide (tx = []) || (decide (answer ≠ 0) && decide (kindF ns ol q tx = answer)))) = true then 0 else 5
def callF (ns : List S101) (ol : List Int) (q : Int) (s0 tx : Nm) (kl : List Int) : Int :=
 if (meansF ns ol q s0 = -1 ∧ procF ns s0 = -1) ∨ (tx ≠ [] ∧ meansF ns ol q tx = -1) then 3
 else if meansF ns ol q s0 = -1 then callT ns ol q tx kl (paramsF ns (procF ns s0)) (nOf ns (procF ns s0))
 else if nOf ns (meansF ns ol q s0) ≠ 4 then 5 else callT ns ol q tx kl [1] 1
set_option maxRecDepth 100000 in
set_option maxHeartbeats 16000000 in
theorem call_is (p : Nat) (At : Option Addr) (ct : Nat) (ns : List S101) (root : Int) (ol : List Int) (q : Int) (h0 : 0 ≤ q) (h1 : q < ns.length) (k n at_ : Int) (tx : ByteArray) (A : Option Addr) (c : Nat) (kl : List Int) (hkl : 0 < kl.length) (w : World) (hS : Sc p At ct ns root ol w) (hKI : KidsIn ns)
  (hk : ∀ k ∈ kl, 0 ≤ k ∧ k < ns.length) (hl : kl.length ≤ 4000) (hC : Kd.C (Kd.int .i64) w A kl.length kl) (hc : kl.length ≤ c) (hs : tx.size ≤ 140737488351232) :
  Calls Try.prog 83 #[.pointer (some ⟨p, 0, none⟩), .int .i64 q, .agg #[.int .i64 k, .int .i64 n, .int .i64 at_, .string tx, .slice A kl.length c]] w fun e w' => e = .returned (.int .i64 (callF ns ol q (nmOf ns (rd kl 0)) tx.data.toList kl)) ∧ Below w.heap.size w w' := by
 have hb0 : Below w.heap.size w ((w.alloc (.cells #[.pointer (some ⟨p, 0, none⟩)] 102)).alloc (.cells #[.int .i64 k, .int .i64 n, .int .i64 at_, .string tx, .slice A kl.length c] 101)) := below_alloc (below_alloc (Below.refl _ _) _) _
 have x3 := blk_alloc (heap_alloc_new w (.cells #[.pointer (some ⟨p, 0, none⟩)] 102)) (.cells #[.int .i64 k, .int .i64 n, .int .i64 at_, .string tx, .slice A kl.length c] 101)
 have x5 := heap_alloc_new (w.alloc (.cells #[.pointer (some ⟨p, 0, none⟩)] 102)) (.cells #[.int .i64 k, .int .i64 n, .int .i64 at_, .string tx, .slice A kl.length c] 101)
 have es : (w.alloc (.cells #[.pointer (some ⟨p, 0, none⟩)] 102)).heap.size = w.heap.size + 1 := by simp
 rw [es] at x5
 obtain ⟨W0, hW0⟩ : ∃ W0, W0 = (w.alloc (.cells #[.pointer (some ⟨p, 0, none⟩)] 102)).alloc (.cells #[.int .i64 k, .int .i64 n, .int .i64 at_, .string tx, .slice A kl.length c] 101) := ⟨_, rfl⟩
 rw [← hW0] at hb0 x3 x5
 have HB0 := Lib.hid hb0
 have X3 := Lib.hid x3
 have X5 := Lib.hid x5
 have HW0 := Lib.hid hW0
 have HS := Lib.hid hS
 obtain ⟨k0, hk0⟩ : ∃ k0, k0 = rd kl 0 := ⟨_, rfl⟩
 rw [← hk0]
 have hin : 0 ≤ k0 ∧ k0 < ns.length := by
  rw [hk0]
  have : rd kl 0 = kl[0] := by simp [rd, hkl]
  rw [this]
  exact hk _ (List.getElem_mem hkl)
 obtain ⟨bo, g, r0, l, Lb, h⟩ := hS.below hb0
 have c3 : W0.cell? ⟨w.heap.size, 0, none⟩ = some (.pointer (some ⟨p, 0, none⟩)) := (blk_cell x3 0).trans rfl
 have c54 : W0.cell? ⟨w.heap.size + 1, 4, none⟩ = some (.slice A kl.length c) := (blk_cell x5 4).trans rfl
 have cp0 : W0.cell? ⟨p, 0, none⟩ = some (.slice At ns.length ct) := (blk_cell h.hp 0).trans rfl
 obtain ⟨adK, eK, y0⟩ := Kd.at_int (Kd.C_below hC hb0) 0 (Int.le_refl _) (by omega)
 rw [← hk0] at y0
 replace y0 : W0.cell? adK = some (.int .i64 k0) := y0
 obtain ⟨ad, A4, c4, eA, z0, z1, z2, z3, z4, l4, g4⟩ := at_T101 h.hC k0 hin.1 hin.2
 obtain ⟨s0, hs0⟩ : ∃ s0, s0 = (rd_T101 ns k0).f3 := ⟨_, rfl⟩
 have hsz : s0.size ≤ 140737488351232 := by rw [hs0]; exact h.hs _ (rd24_mem ns k0 hin.1 hin.2)
 rw [← hs0] at z3
 have hn0 : nmOf ns k0 = s0.data.toList := by rw [hs0]; rfl
 rw [hn0]
 have HM := Lib.hid (fun (w' : World) (hb : Below w.heap.size w w') => means_is p At ct ns root ol q h0 h1 s0 hsz w' (hS.below hb))
 have HP := Lib.hid (fun (w' : World) (hb : Below w.heap.size w w') => proc_is p At ct ns root ol s0 hsz w' (hS.below hb))
 have HM2 := Lib.hid (fun (w' : World) (hb : Below w.heap.size w w') => means_is p At ct ns root ol q h0 h1 tx hs w' (hS.below hb))
 have HKD := Lib.hid (fun (w' : World) (hb : Below w.heap.size w w') => kind_is p At ct ns root ol q h0 h1 tx hs w' (hS.below hb))
 have HD := Lib.hid (meansF_range ns ol q s0.data.toList)
 have HPR := Lib.hid (procF_range ns s0.data.toList)
 have HM2R := Lib.hid (meansF_range ns ol q tx.data.toList)
 obtain ⟨R, hR⟩ : ∃ R, R = callF ns ol q s0.data.toList tx.data.toList kl := ⟨_, rfl⟩
 rw [← hR]
 unfold callF callT at hR
 obtain ⟨d, hd⟩ : ∃ d, d = meansF ns ol q s0.data.toList := ⟨_, rfl⟩
 obtain ⟨pp, hpp⟩ : ∃ pp, pp = procF ns s0.data.toList := ⟨_, rfl⟩
 obtain ⟨d2, hd2⟩ : ∃ d2, d2 = meansF ns ol q tx.data.toList := ⟨_, rfl⟩
 obtain ⟨kt, hkt⟩ : ∃ kt, kt = kindF ns ol q tx.data.toList := ⟨_, rfl⟩
 rw [← hd, ← hpp, ← hd2, ← hkt] at hR
 rw [← hd] at HM HD
 rw [← hpp] at HP HPR
 rw [← hd2] at HM2 HM2R
 rw [← hkt] at HKD
 have HR := Lib.hid hR
 have HKT := Lib.hid hkt
 have e1 := eq_true hin.1
 have e2 := eq_true hin.2
 have e3 : (0 : Int) < (kl.length : Int) := by omega
 cases eK
 cases eA
 obtain ⟨i3, hi3, hz3⟩ := Option.map_eq_some_iff.1 info3
 simp only [Prod.mk.injEq] at hz3
 obtain ⟨A', hcut, hcr⟩ := print_cut_of (P := Try.prog) (Value.int .i64) 0 70 3 .i64 Try.underlying70 hi3 hz3.2.1 (some adK) kl.length c 1 (by omega)
 have hcut1 : ∀ W, (Instr.slice 70 (.slice (some adK) kl.length c) (some (.int .i64 1)) none none).run Try.prog W = .ok (.slice A' (kl.length - 1) (c - 1)) W := hcut
 have HFT := Lib.hid (fun (b1 : Nat) (A2 : Option Addr) (c' : Nat) (wl : List Int) (w' : World) (hb : Below w.heap.size w w') (hC2 : Kd.C (Kd.int .i64) w' A2 wl.length wl) (hc2 : wl.length ≤ c') (x : w'.heap[b1]? = some (.cells #[.pointer (some ⟨p, 0, none⟩)] 102 (0, 0))) => by
  have hf := fits_is b1 p (some ad) ct ns root ol A' (c - 1) (kl.drop 1) (fun k h => hk k (List.mem_of_mem_drop h)) (by simp; omega) A2 c' wl w' (hS.below hb) (by
   have hr := hcr w' kl hc (Kd.reads_of_C (d := 0) (Kd.C_below hC hb))
   rw [← List.length_drop] at hr
   exact Kd.C_of_reads hr) (by simp; omega) hC2 hc2 x
  rw [List.length_drop] at hf
  exact hf)
 have HPA := Lib.hid (fun (w' : World) (hb : Below w.heap.size w w') (h0 : 0 ≤ pp) (h1 : pp < ns.length) => params_is p (some ad) ct ns root ol pp h0 h1 hKI w' (hS.below hb))
 clear hcut hcr hi3 hz3 z0 z1 z2 z4 l4 g4 hW0 hb0 x3 x5 hS hKI hk hC es h hk0 hin hs0 hn0 hsz hR hd hpp hd2 hkt
 go_enter Try.func83, Try.ntmps83
 go_wp2_with fail
 rw [← HW0.out]
 go_quiet (fail)
 obtain ⟨W1, hW1⟩ : ∃ W1, W1 = W0.drewN nq := ⟨_, rfl⟩
 rw [← hW1]
 have HB1 : Hid (Below w.heap.size w W1) := Lib.hid (by rw [hW1]; exact pw_below_drewN HB0.out _)
 have X31 : Hid (W1.heap[w.heap.size]? = some (.cells #[.pointer (some ⟨p, 0, none⟩)] 102 (0, 0))) := Lib.hid (by rw [hW1]; exact X3.out)
 have X51 : Hid (W1.heap[w.heap.size + 1]? = some (.cells #[.int .i64 k, .int .i64 n, .int .i64 at_, .string tx, .slice (some adK) kl.length c] 101 (0, 0))) := Lib.hid (by rw [hW1]; exact X5.out)
 clear hW1 c3 c54 cp0 y0 z3 e1 e2 HB0 X3 X5 HW0
 have c31 : W1.cell? ⟨w.heap.size, 0, none⟩ = some (.pointer (some ⟨p, 0, none⟩)) := (blk_cell X31.out 0).trans rfl
 go_wp2_with fail
 refine start_ (n := 9) (S := fun w' => w'.cell? ⟨w.heap.size, 0, none⟩ = some (.pointer (some ⟨p, 0, none⟩))) (ds := []) #[false, false, false, false, false, false, false, false, false] (by kernel_rfl) rfl rfl (cel_drew c31) (fun hHeld => ?_)
 refine pure_ (i := 1) (N := some 26) (v := ?_) (a' := ?_) #[false, true, false, false, false, false, false, false, false] rfl rfl (by kernel_rfl) (fun _ _ _ h => h) (Or.inl ⟨by rfl, ?_⟩) ?_ ?_
 rotate_left
 ·intro w'
  go_simp
  with_reducible rfl
 rotate_left
 ·simp only [Act.put, List.setIfInBounds_toArray, List.set_cons_zero, List.set_cons_succ, i64_w, i32_w]
  rfl
 refine pure_ (i := 2) (N := some 27) (v := ?_) (a' := ?_) #[false, true, true, false, false, false, false, false, false] rfl rfl (by kernel_rfl) (fun _ _ _ h => h) (Or.inl ⟨by rfl, ?_⟩) ?_ ?_
 rotate_left
 ·intro w'
  go_simp
  with_reducible rfl
 rotate_left
 ·simp only [Act.put, List.setIfInBounds_toArray, List.set_cons_zero, List.set_cons_succ, i64_w, i32_w]
  rfl
 refine pure_ (i := 5) (N := some 30) (v := ?_) (a' := ?_) #[false, true, true, false, false, true, false, false, false] rfl rfl (by kernel_rfl) (fun _ _ _ h => h) (Or.inl ⟨by rfl, ?_⟩) ?_ ?_
 rotate_left
 ·intro w'
  go_simp
  with_reducible rfl
 rotate_left
 ·simp only [Act.put, List.setIfInBounds_toArray, List.set_cons_zero, List.set_cons_succ, i64_w, i32_w]
  rfl
 refine take_ (i := 0) (N := some 25) (v := ?_) (a' := ?_) #[true, true, true, false, false, true, false, false, false] rfl rfl (by kernel_rfl) (fun _ _ _ h => h) (Or.inl ⟨by rfl, ?_⟩) hHeld ?_ ?_
 rotate_left
 ·intro w' s0
  go_simp
  with_reducible rfl
 rotate_left
 ·simp only [Act.put, List.setIfInBounds_toArray, List.set_cons_zero, List.set_cons_succ, i64_w, i32_w]
  rfl
 refine take_ (i := 4) (N := some 29) (v := ?_) (a' := ?_) #[true, true, true, false, true, true, false, false, false] rfl rfl (by kernel_rfl) (fun _ _ _ h => h) (Or.inl ⟨by rfl, ?_⟩) hHeld ?_ ?_
 rotate_left
 ·intro w' s0
  go_simp
  with_reducible rfl
 rotate_left
 ·simp only [Act.put, List.setIfInBounds_toArray, List.set_cons_zero, List.set_cons_succ, i64_w, i32_w]
  rfl
 refine one_ (i := 3) (N := some 28) #[true, true, true, true, true, true, false, false, false] rfl rfl (by kernel_rfl) (by decide) (fun K hK => ?_)
 refine goes_ Try.func87 (by kernel_rfl) rfl #[.pointer (some ⟨p, 0, none⟩), .int .i64 q, .string s0] (by rfl) rfl rfl (by simp only [List.map_toArray, List.map_cons, List.map_nil]; rfl) ?_
 with_reducible refine (HM.out _ (below_drew HB1.out)).mono ?_
 rintro e_ W2 ⟨rfl, hb_⟩
 refine ⟨_, rfl, ?_⟩
 have HB2 := Lib.hid (below_step (below_drew (HB1.out)) hb_)
 have X32 := Lib.hid (blk_below (blk_drew (X31.out)) hb_)
 have X52 := Lib.hid (blk_below (blk_drew (X51.out)) hb_)
 clear hb_
 have c32 : W2.cell? ⟨w.heap.size, 0, none⟩ = some (.pointer (some ⟨p, 0, none⟩)) := (blk_cell X32.out 0).trans rfl
 refine hK.out _ _ (c32) (fun hHeld => ?_)
 clear hK K
 refine norm_ (a' := ?_) ?_ ?_
 rotate_left
 ·show Act.put _ (some 28) _ = _
  simp only [Act.put, List.setIfInBounds_toArray, List.set_cons_zero, List.set_cons_succ, i64_w, i32_w]
  rfl
 refine one_ (i := 6) (N := some 31) #[true, true, true, true, true, true, true, false, false] rfl rfl (by kernel_rfl) (by decide) (fun K hK => ?_)
 refine goes_ Try.func53 (by kernel_rfl) rfl #[.pointer (some ⟨p, 0, none⟩), .string s0] (by rfl) rfl rfl (by simp only [List.map_toArray, List.map_cons, List.map_nil]; rfl) ?_
 with_reducible refine (HP.out _ HB2.out).mono ?_
 rintro e_ W3 ⟨rfl, hb_⟩
 refine ⟨_, rfl, ?_⟩
 have HB3 := Lib.hid (below_step (HB2.out) hb_)
 have X33 := Lib.hid (blk_below (X32.out) hb_)
 have X53 := Lib.hid (blk_below (X52.out) hb_)
 clear hb_
 have c33 : W3.cell? ⟨w.heap.size, 0, none⟩ = some (.pointer (some ⟨p, 0, none⟩)) := (blk_cell X33.out 0).trans rfl
 refine hK.out _ _ (c33) (fun hHeld => ?_)
 clear hK K
 refine norm_ (a' := ?_) ?_ ?_
 rotate_left
 ·show Act.put _ (some 31) _ = _
  simp only [Act.put, List.setIfInBounds_toArray, List.set_cons_zero, List.set_cons_succ, i64_w, i32_w]
  rfl
 refine pure_ (i := 7) (N := some 8) (v := ?_) (a' := ?_) #[true, true, true, true, true, true, true, true, false] rfl rfl (by kernel_rfl) (fun _ _ _ h => h) (Or.inl ⟨by rfl, ?_⟩) ?_ ?_
 rotate_left
 ·intro w'
  go_simp
  with_reducible rfl
 rotate_left
 ·simp only [Act.put, List.setIfInBounds_toArray, List.set_cons_zero, List.set_cons_succ, i64_w, i32_w]
  rfl
 refine pure_ (i := 8) (N := some 9) (v := ?_) (a' := ?_) #[true, true, true, true, true, true, true, true, true] rfl rfl (by kernel_rfl) (fun _ _ _ h => h) (Or.inl ⟨by rfl, ?_⟩) ?_ ?_
 rotate_left
 ·intro w'
  go_simp
  with_reducible rfl
 rotate_left
 ·simp only [Act.put, List.setIfInBounds_toArray, List.set_cons_zero, List.set_cons_succ, i64_w, i32_w]
  rfl
 refine done_ (by kernel_rfl) ?_
 by_cases hA : d = -1 ∧ pp = -1
 ·obtain ⟨rfl, rfl⟩ := hA
  have hR3 : R = 3 := by have h := HR.out; rw [if_pos (.inl ⟨rfl, rfl⟩)] at h; exact h
  subst hR3
  clear HR HD HPR
  go_wp2_with fail
  go_ret
  exact ⟨rfl, HB3.out⟩
 have hnb := hA
 clear hA
 by_cases ht : tx.size = 0
 ·have ht1 := toList_nil tx ht
  have ht2 : tx.data.toList = [] := by rw [← toList_data]; exact ht1
  have hx : ¬ (tx.data.toList ≠ [] ∧ d2 = -1) := fun e => e.1 ht2
  have HX := Lib.hid hx
  clear ht
  have c533 : W3.cell? ⟨w.heap.size + 1, 3, none⟩ = some (.string tx) := (blk_cell X53.out 3).trans rfl
  by_cases hd : d = -1
  ·have hpp : pp ≠ -1 := fun e => hnb ⟨hd, e⟩
   subst hd
   have hb_ : Below W3.heap.size W3 (W3.alloc (.cells #[.int .i64 1] 3)) := below_alloc (Below.refl _ _) _
   have ho_ := c_one W3 1
   obtain ⟨W3a, hW3a⟩ : ∃ W_, W_ = W3.alloc (.cells #[.int .i64 1] 3) := ⟨_, rfl⟩
   rw [← hW3a] at hb_ ho_
   have HO3a := Lib.hid ho_
   have HB3a := Lib.hid (below_step (HB3.out) hb_)
   have X33a := Lib.hid (blk_below (X33.out) hb_)
   have X53a := Lib.hid (blk_below (X53.out) hb_)
   clear hb_
   obtain ⟨bo', g', r', l', Lb', h⟩ := HS.out.below HB3a.out
   have cp0 : W3a.cell? ⟨p, 0, none⟩ = some (.slice (some ad) ns.length ct) := (blk_cell h.hp 0).trans rfl
   have c33a : W3a.cell? ⟨w.heap.size, 0, none⟩ = some (.pointer (some ⟨p, 0, none⟩)) := (blk_cell X33a.out 0).trans rfl
   have c543a : W3a.cell? ⟨w.heap.size + 1, 4, none⟩ = some (.slice (some adK) kl.length c) := (blk_cell X53a.out 4).trans rfl
   clear ho_
   have hpr := HPR.out.resolve_left hpp
   have hRT : R = if (fitsF ns ol (kl.drop 1) (paramsF ns pp) && (decide (tx.data.toList = []) || (decide (nOf ns pp ≠ 0) && decide (kt = nOf ns pp)))) = true then 0 else 5 := by have h := HR.out; rw [if_neg (by rintro (⟨_, e⟩ | e); exact hpp e; exact HX.out e), if_pos (by trivial)] at h; exact h
   obtain ⟨ad', A5, c5, eA, x0, x1, x2, x3, x4, l5, g5⟩ := at_T101 h.hC pp hpr.1 hpr.2
   have hn1 : nOf ns pp = (rd_T101 ns pp).f1 := rfl
   rw [← hn1] at x1
   obtain ⟨an, han⟩ : ∃ an, an = nOf ns pp := ⟨_, rfl⟩
   rw [← han] at x1 hRT
   obtain ⟨wl, hwl⟩ : ∃ wl, wl = paramsF ns pp := ⟨_, rfl⟩
   have HPB := Lib.hid (fun (w' : World) (hb : Below w.heap.size w w') => HPA.out w' hb hpr.1 hpr.2)
   rw [← hwl] at hRT HPB
   have HRT := Lib.hid hRT
   have e1 := eq_true hpr.1
   have e2 := eq_true hpr.2
   cases eA
   clear h x0 x2 x3 x4 l5 g5 hn1 hpr hRT han hwl
   subst hW3a
   go_wp2_with fail
   refine start_ (n := 14) (S := fun w' => w'.cell? ⟨w.heap.size, 0, none⟩ = some (.pointer (some ⟨p, 0, none⟩)) ∧ w'.cell? ⟨p, 0, none⟩ = some (.slice (some ad) ns.length ct) ∧ w'.cell? ⟨(ad.add (pp.toNat * 5)).block, (ad.add (pp.toNat * 5)).off + 1, none⟩ = some (.int .i64 an)) (ds := []) #[false, false, false, false, false, false, false, false, false, false, false, false, false, false] (by kernel_rfl) rfl rfl ⟨cel_drew c33a, cel_drew cp0, cel_drew x1⟩ (fun hHeld => ?_)
   refine pure_ (i := 1) (N := some 55) (v := ?_) (a' := ?_) #[false, true, false, false, false, false, false, false, false, false, false, false, false, false] rfl rfl (by kernel_rfl) (fun _ _ _ h => h) (Or.inl ⟨by rfl, ?_⟩) ?_ ?_
   rotate_left
   ·intro w'
    go_simp
    with_reducible rfl
   rotate_left
   ·simp only [Act.put, List.setIfInBounds_toArray, List.set_cons_zero, List.set_cons_succ, i64_w, i32_w]
    rfl
   refine pure_ (i := 8) (N := some 62) (v := ?_) (a' := ?_) #[false, true, false, false, false, false, false, false, true, false, false, false, false, false] rfl rfl (by kernel_rfl) (fun _ _ _ h => h) (Or.inl ⟨by rfl, ?_⟩) ?_ ?_
   rotate_left
   ·intro w'
    go_simp
    with_reducible rfl
   rotate_left
   ·simp only [Act.put, List.setIfInBounds_toArray, List.set_cons_zero, List.set_cons_succ, i64_w, i32_w]
    rfl
   refine take_ (i := 0) (N := some 54) (v := ?_) (a' := ?_) #[true, true, false, false, false, false, false, false, true, false, false, false, false, false] rfl rfl (by kernel_rfl) (fun _ _ _ h => h) (Or.inl ⟨by rfl, ?_⟩) hHeld ?_ ?_
   rotate_left
   ·rintro w' ⟨s0, s1, s2⟩
    go_simp
    with_reducible rfl
   rotate_left
   ·simp only [Act.put, List.setIfInBounds_toArray, List.set_cons_zero, List.set_cons_succ, i64_w, i32_w]
    rfl
   refine take_ (i := 3) (N := some 57) (v := ?_) (a' := ?_) #[true, true, false, true, false, false, false, false, true, false, false, false, false, false] rfl rfl (by kernel_rfl) (fun _ _ _ h => h) (Or.inl ⟨by rfl, ?_⟩) hHeld ?_ ?_
   rotate_left
   ·rintro w' ⟨s0, s1, s2⟩
    go_simp
    with_reducible rfl
   rotate_left
   ·simp only [Act.put, List.setIfInBounds_toArray, List.set_cons_zero, List.set_cons_succ, i64_w, i32_w]
    rfl
   refine pure_ (i := 4) (N := some 58) (v := ?_) (a' := ?_) #[true, true, false, true, true, false, false, false, true, false, false, false, false, false] rfl rfl (by kernel_rfl) (fun _ _ _ h => h) (Or.inl ⟨by rfl, ?_⟩) ?_ ?_
   rotate_left
   ·intro w'
    go_simp
    with_reducible rfl
   rotate_left
   ·simp only [Act.put, List.setIfInBounds_toArray, List.set_cons_zero, List.set_cons_succ, i64_w, i32_w]
    rfl
   refine pure_ (i := 5) (N := some 59) (v := ?_) (a' := ?_) #[true, true, false, true, true, true, false, false, true, false, false, false, false, false] rfl rfl (by kernel_rfl) (fun _ _ _ h => h) (Or.inl ⟨by rfl, ?_⟩) ?_ ?_
   rotate_left
   ·intro w'
    go_simp
    with_reducible rfl
   rotate_left
   ·simp only [Act.put, List.setIfInBounds_toArray, List.set_cons_zero, List.set_cons_succ, i64_w, i32_w]
    rfl
   refine pure_ (i := 6) (N := some 60) (v := ?_) (a' := ?_) #[true, true, false, true, true, true, true, false, true, false, false, false, false, false] rfl rfl (by kernel_rfl) (fun _ _ _ h => h) (Or.inl ⟨by rfl, ?_⟩) ?_ ?_
   rotate_left
   ·intro w'
    go_simp
    with_reducible rfl
   rotate_left
   ·simp only [Act.put, List.setIfInBounds_toArray, List.set_cons_zero, List.set_cons_succ, i64_w, i32_w]
    rfl
   refine take_ (i := 7) (N := some 61) (v := ?_) (a' := ?_) #[true, true, false, true, true, true, true, true, true, false, false, false, false, false] rfl rfl (by kernel_rfl) (fun _ _ _ h => h) (Or.inl ⟨by rfl, ?_⟩) hHeld ?_ ?_
   rotate_left
   ·rintro w' ⟨s0, s1, s2⟩
    go_simp
    with_reducible rfl
   rotate_left
   ·simp only [Act.put, List.setIfInBounds_toArray, List.set_cons_zero, List.set_cons_succ, i64_w, i32_w]
    rfl
   refine pure_ (i := 9) (N := some 63) (v := ?_) (a' := ?_) #[true, true, false, true, true, true, true, true, true, true, false, false, false, false] rfl rfl (by kernel_rfl) (fun _ _ _ h => h) (Or.inl ⟨by rfl, ?_⟩) ?_ ?_
   rotate_left
   ·intro w'
    go_simp
    with_reducible rfl
   rotate_left
   ·simp only [Act.put, List.setIfInBounds_toArray, List.set_cons_zero, List.set_cons_succ, i64_w, i32_w]
    rfl
   refine pure_ (i := 10) (N := some 64) (v := ?_) (a' := ?_) #[true, true, false, true, true, true, true, true, true, true, true, false, false, false] rfl rfl (by kernel_rfl) (fun _ _ _ h => h) (Or.inl ⟨by rfl, ?_⟩) ?_ ?_
   rotate_left
   ·intro w'
    go_simp
    with_reducible rfl
   rotate_left
   ·simp only [Act.put, List.setIfInBounds_toArray, List.set_cons_zero, List.set_cons_succ, i64_w, i32_w]
    rfl
   refine take_ (i := 11) (N := some 65) (v := ?_) (a' := ?_) #[true, true, false, true, true, true, true, true, true, true, true, true, false, false] rfl rfl (by kernel_rfl) (fun _ _ _ h => h) (Or.inl ⟨by rfl, ?_⟩) hHeld ?_ ?_
   rotate_left
   ·rintro w' ⟨s0, s1, s2⟩
    go_simp
    with_reducible rfl
   rotate_left
   ·simp only [Act.put, List.setIfInBounds_toArray, List.set_cons_zero, List.set_cons_succ, i64_w, i32_w]
    rfl
   refine one_ (i := 2) (N := some 56) #[true, true, true, true, true, true, true, true, true, true, true, true, false, false] rfl rfl (by kernel_rfl) (by decide) (fun K hK => ?_)
   refine goes_ Try.func54 (by kernel_rfl) rfl #[.pointer (some ⟨p, 0, none⟩), .int .i64 pp] (by rfl) rfl rfl (by simp only [List.map_toArray, List.map_cons, List.map_nil]; rfl) ?_
   with_reducible refine (HPB.out _ (below_drew HB3a.out)).mono ?_
   rintro e_ W3ap ⟨v_, rfl, hr_, hb_⟩
   obtain ⟨Aw, cw, rfl, hle_, hCw_⟩ := Kd.R_reads hr_
   refine ⟨_, rfl, ?_⟩
   have HCw := Lib.hid hCw_
   have y1 := pw_cell_below hb_ (cel_drew cp0)
   have y2 := pw_cell_below hb_ (cel_drew x1)
   have HB3ap := Lib.hid (below_step (below_drew (HB3a.out)) hb_)
   have X33ap := Lib.hid (blk_below (blk_drew (X33a.out)) hb_)
   have X53ap := Lib.hid (blk_below (blk_drew (X53a.out)) hb_)
   clear hb_
   have c33ap : W3ap.cell? ⟨w.heap.size, 0, none⟩ = some (.pointer (some ⟨p, 0, none⟩)) := (blk_cell X33ap.out 0).trans rfl
   clear hr_ hCw_
   refine hK.out _ _ ⟨c33ap, y1, y2⟩ (fun hHeld => ?_)
   clear hK K
   refine norm_ (a' := ?_) ?_ ?_
   rotate_left
   ·show Act.put _ (some 56) _ = _
    simp only [Act.put, List.setIfInBounds_toArray, List.set_cons_zero, List.set_cons_succ, i64_w, i32_w]
    rfl
   refine pure_ (i := 12) (N := some 10) (v := ?_) (a' := ?_) #[true, true, true, true, true, true, true, true, true, true, true, true, true, false] rfl rfl (by kernel_rfl) (fun _ _ _ h => h) (Or.inl ⟨by rfl, ?_⟩) ?_ ?_
   rotate_left
   ·intro w'
    go_simp
    with_reducible rfl
   rotate_left
   ·simp only [Act.put, List.setIfInBounds_toArray, List.set_cons_zero, List.set_cons_succ, i64_w, i32_w]
    rfl
   refine pure_ (i := 13) (N := some 11) (v := ?_) (a' := ?_) #[true, true, true, true, true, true, true, true, true, true, true, true, true, true] rfl rfl (by kernel_rfl) (fun _ _ _ h => h) (Or.inl ⟨by rfl, ?_⟩) ?_ ?_
   rotate_left
   ·intro w'
    go_simp
    with_reducible rfl
   rotate_left
   ·simp only [Act.put, List.setIfInBounds_toArray, List.set_cons_zero, List.set_cons_succ, i64_w, i32_w]
    rfl
   refine done_ (by kernel_rfl) ?_
   have c543ap : W3ap.cell? ⟨w.heap.size + 1, 4, none⟩ = some (.slice (some adK) kl.length c) := (blk_cell X53ap.out 4).trans rfl
   go_wp2_with fail
   obtain ⟨fb, hfb⟩ : ∃ fb, fb = fitsF ns ol (kl.drop 1) wl := ⟨_, rfl⟩
   have HT := HRT.out
   rw [← hfb] at HT
   have HQ := HFT.out w.heap.size Aw cw wl _ HB3ap.out HCw.out hle_ X33ap.out
   rw [← hfb] at HQ
   clear hfb
   refine HQ.mono ?_
   rintro e_ W3apb ⟨rfl, hb_⟩
   have HB3apb := Lib.hid (below_step (HB3ap.out) hb_)
   have X33apb := Lib.hid (blk_below (X33ap.out) hb_)
   have X53apb := Lib.hid (blk_below (X53ap.out) hb_)
   clear hb_
   have c533apb : W3apb.cell? ⟨w.heap.size + 1, 3, none⟩ = some (.string tx) := (blk_cell X53apb.out 3).trans rfl
   have c33apb : W3apb.cell? ⟨w.heap.size, 0, none⟩ = some (.pointer (some ⟨p, 0, none⟩)) := (blk_cell X33apb.out 0).trans rfl
   clear HQ HR HRT HPA HFT
   cases fb with
   | false =>
    go_wp2_with fail
    refine (told_is false _).mono ?_
    rintro e_ w_ ⟨rfl, rfl⟩
    have hR : R = 5 := by rw [HT]; rfl
    subst hR
    clear HT
    go_wp2_with fail
    go_ret
    exact ⟨rfl, HB3apb.out⟩
   | true =>
    go_wp2_with fail
    refine (told_is true _).mono ?_
    rintro e_ w_ ⟨rfl, rfl⟩
    have hR : R = 0 := by rw [HT]; simp [ht2]
    subst hR
    clear HT
    go_wp2_with fail
    go_ret
    exact ⟨rfl, HB3apb.out⟩
  ·skip
   have hb_ : Below W3.heap.size W3 (W3.alloc (.cells #[.int .i64 1] 3)) := below_alloc (Below.refl _ _) _
   have ho_ := c_one W3 1
   obtain ⟨W3a, hW3a⟩ : ∃ W_, W_ = W3.alloc (.cells #[.int .i64 1] 3) := ⟨_, rfl⟩
   rw [← hW3a] at hb_ ho_
   have HO3a := Lib.hid ho_
   have HB3a := Lib.hid (below_step (HB3.out) hb_)
   have X33a := Lib.hid (blk_below (X33.out) hb_)
   have X53a := Lib.hid (blk_below (X53.out) hb_)
   clear hb_
   obtain ⟨bo', g', r', l', Lb', h⟩ := HS.out.below HB3a.out
   have cp0 : W3a.cell? ⟨p, 0, none⟩ = some (.slice (some ad) ns.length ct) := (blk_cell h.hp 0).trans rfl
   have c33a : W3a.cell? ⟨w.heap.size, 0, none⟩ = some (.pointer (some ⟨p, 0, none⟩)) := (blk_cell X33a.out 0).trans rfl
   have c543a : W3a.cell? ⟨w.heap.size + 1, 4, none⟩ = some (.slice (some adK) kl.length c) := (blk_cell X53a.out 4).trans rfl
   clear ho_
   have hdr := HD.out.resolve_left hd
   obtain ⟨ad', A5, c5, eA, x0, x1, x2, x3, x4, l5, g5⟩ := at_T101 h.hC d hdr.1 hdr.2
   have hn1 : nOf ns d = (rd_T101 ns d).f1 := rfl
   rw [← hn1] at x1
   obtain ⟨nd, hnd⟩ : ∃ nd, nd = nOf ns d := ⟨_, rfl⟩
   rw [← hnd] at x1
   have HND := Lib.hid hnd
   have e1 := eq_true hdr.1
   have e2 := eq_true hdr.2
   cases eA
   clear h x0 x2 x3 x4 l5 g5 hn1 hnd hdr
   subst hW3a
   by_cases hn4 : nd = 4
   ·subst hn4
    have hRT : R = if (fitsF ns ol (kl.drop 1) [1] && (decide (tx.data.toList = []) || (decide ((1 : Int) ≠ 0) && decide (kt = 1)))) = true then 0 else 5 := by have h := HR.out; rw [if_neg (by rintro (⟨e, _⟩ | e); exact hd e; exact HX.out e), if_neg hd, if_neg (by rw [← HND.out]; exact fun h => h rfl)] at h; exact h
    have HRT := Lib.hid hRT
    clear hRT
    go_wp2_with fail
    obtain ⟨fb, hfb⟩ : ∃ fb, fb = fitsF ns ol (kl.drop 1) [1] := ⟨_, rfl⟩
    have HT := HRT.out
    rw [← hfb] at HT
    have HQ := HFT.out w.heap.size _ 1 [1] _ HB3a.out HO3a.out (Nat.le_refl _) X33a.out
    rw [← hfb] at HQ
    clear hfb
    refine HQ.mono ?_
    rintro e_ W3ab ⟨rfl, hb_⟩
    have HB3ab := Lib.hid (below_step (HB3a.out) hb_)
    have X33ab := Lib.hid (blk_below (X33a.out) hb_)
    have X53ab := Lib.hid (blk_below (X53a.out) hb_)
    clear hb_
    have c533ab : W3ab.cell? ⟨w.heap.size + 1, 3, none⟩ = some (.string tx) := (blk_cell X53ab.out 3).trans rfl
    have c33ab : W3ab.cell? ⟨w.heap.size, 0, none⟩ = some (.pointer (some ⟨p, 0, none⟩)) := (blk_cell X33ab.out 0).trans rfl
    clear HQ HR HRT HPA HFT
    cases fb with
    | false =>
     go_wp2_with fail
     refine (told_is false _).mono ?_
     rintro e_ w_ ⟨rfl, rfl⟩
     have hR : R = 5 := by rw [HT]; rfl
     subst hR
     clear HT
     go_wp2_with fail
     go_ret
     exact ⟨rfl, HB3ab.out⟩
    | true =>
     go_wp2_with fail
     refine (told_is true _).mono ?_
     rintro e_ w_ ⟨rfl, rfl⟩
     have hR : R = 0 := by rw [HT]; simp [ht2]
     subst hR
     clear HT
     go_wp2_with fail
     go_ret
     exact ⟨rfl, HB3ab.out⟩
   ·have hR5 : R = 5 := by have h := HR.out; rw [if_neg (by rintro (⟨e, _⟩ | e); exact hd e; exact HX.out e), if_neg hd, if_pos (by rw [← HND.out]; exact hn4)] at h; exact h
    subst hR5
    clear HR
    go_wp2_with fail
    go_ret
    exact ⟨rfl, HB3a.out⟩
 ·have ht1 := toList_ne tx (by omega)
  have ht2 : ¬ (tx.data.toList = []) := by rw [← toList_data]; exact ht1
  have ht3 : (tx.toList == []) = false := by simpa using ht1
  clear ht
  have c533 : W3.cell? ⟨w.heap.size + 1, 3, none⟩ = some (.string tx) := (blk_cell X53.out 3).trans rfl
  by_cases hd : d = -1
  ·have hpp : pp ≠ -1 := fun e => hnb ⟨hd, e⟩
   subst hd
   go_wp2_with fail
   refine (HM2.out W3 HB3.out).mono ?_
   rintro e_ W4 ⟨rfl, hb_⟩
   have HB4 := Lib.hid (below_step (HB3.out) hb_)
   have X34 := Lib.hid (blk_below (X33.out) hb_)
   have X54 := Lib.hid (blk_below (X53.out) hb_)
   clear hb_
   clear c33 c533
   by_cases hd2 : d2 = -1
   ·have hR3 : R = 3 := by have h := HR.out; rw [if_pos (.inr ⟨ht2, hd2⟩)] at h; exact h
    subst hR3
    subst hd2
    clear HR HD HPR
    go_wp2_with fail
    go_ret
    exact ⟨rfl, HB4.out⟩
   have hx : ¬ (tx.data.toList ≠ [] ∧ d2 = -1) := fun e => hd2 e.2
   have HX := Lib.hid hx
   have hd2b : (d2 == -1) = false := by simpa using hd2
   have hppb : (pp == -1) = false := by simpa using hpp
   have hb_ : Below W4.heap.size W4 (W4.alloc (.cells #[.int .i64 1] 3)) := below_alloc (Below.refl _ _) _
   have ho_ := c_one W4 1
   obtain ⟨W4a, hW4a⟩ : ∃ W_, W_ = W4.alloc (.cells #[.int .i64 1] 3) := ⟨_, rfl⟩
   rw [← hW4a] at hb_ ho_
   have HO4a := Lib.hid ho_
   have HB4a := Lib.hid (below_step (HB4.out) hb_)
   have X34a := Lib.hid (blk_below (X34.out) hb_)
   have X54a := Lib.hid (blk_below (X54.out) hb_)
   clear hb_
   obtain ⟨bo', g', r', l', Lb', h⟩ := HS.out.below HB4a.out
   have cp0 : W4a.cell? ⟨p, 0, none⟩ = some (.slice (some ad) ns.length ct) := (blk_cell h.hp 0).trans rfl
   have c34a : W4a.cell? ⟨w.heap.size, 0, none⟩ = some (.pointer (some ⟨p, 0, none⟩)) := (blk_cell X34a.out 0).trans rfl
   have c544a : W4a.cell? ⟨w.heap.size + 1, 4, none⟩ = some (.slice (some adK) kl.length c) := (blk_cell X54a.out 4).trans rfl
   clear ho_
   have hpr := HPR.out.resolve_left hpp
   have hRT : R = if (fitsF ns ol (kl.drop 1) (paramsF ns pp) && (decide (tx.data.toList = []) || (decide (nOf ns pp ≠ 0) && decide (kt = nOf ns pp)))) = true then 0 else 5 := by have h := HR.out; rw [if_neg (by rintro (⟨_, e⟩ | e); exact hpp e; exact HX.out e), if_pos (by trivial)] at h; exact h
   obtain ⟨ad', A5, c5, eA, x0, x1, x2, x3, x4, l5, g5⟩ := at_T101 h.hC pp hpr.1 hpr.2
   have hn1 : nOf ns pp = (rd_T101 ns pp).f1 := rfl
   rw [← hn1] at x1
   obtain ⟨an, han⟩ : ∃ an, an = nOf ns pp := ⟨_, rfl⟩
   rw [← han] at x1 hRT
   obtain ⟨wl, hwl⟩ : ∃ wl, wl = paramsF ns pp := ⟨_, rfl⟩
   have HPB := Lib.hid (fun (w' : World) (hb : Below w.heap.size w w') => HPA.out w' hb hpr.1 hpr.2)
   rw [← hwl] at hRT HPB
   have HRT := Lib.hid hRT
   have e1 := eq_true hpr.1
   have e2 := eq_true hpr.2
   cases eA
   clear h x0 x2 x3 x4 l5 g5 hn1 hpr hRT han hwl
   subst hW4a
   go_wp2_with fail
   refine start_ (n := 14) (S := fun w' => w'.cell? ⟨w.heap.size, 0, none⟩ = some (.pointer (some ⟨p, 0, none⟩)) ∧ w'.cell? ⟨p, 0, none⟩ = some (.slice (some ad) ns.length ct) ∧ w'.cell? ⟨(ad.add (pp.toNat * 5)).block, (ad.add (pp.toNat * 5)).off + 1, none⟩ = some (.int .i64 an)) (ds := []) #[false, false, false, false, false, false, false, false, false, false, false, false, false, false] (by kernel_rfl) rfl rfl ⟨cel_drew c34a, cel_drew cp0, cel_drew x1⟩ (fun hHeld => ?_)
   refine pure_ (i := 1) (N := some 55) (v := ?_) (a' := ?_) #[false, true, false, false, false, false, false, false, false, false, false, false, false, false] rfl rfl (by kernel_rfl) (fun _ _ _ h => h) (Or.inl ⟨by rfl, ?_⟩) ?_ ?_
   rotate_left
   ·intro w'
    go_simp
    with_reducible rfl
   rotate_left
   ·simp only [Act.put, List.setIfInBounds_toArray, List.set_cons_zero, List.set_cons_succ, i64_w, i32_w]
    rfl
   refine pure_ (i := 8) (N := some 62) (v := ?_) (a' := ?_) #[false, true, false, false, false, false, false, false, true, false, false, false, false, false] rfl rfl (by kernel_rfl) (fun _ _ _ h => h) (Or.inl ⟨by rfl, ?_⟩) ?_ ?_
   rotate_left
   ·intro w'
    go_simp
    with_reducible rfl
   rotate_left
   ·simp only [Act.put, List.setIfInBounds_toArray, List.set_cons_zero, List.set_cons_succ, i64_w, i32_w]
    rfl
   refine take_ (i := 0) (N := some 54) (v := ?_) (a' := ?_) #[true, true, false, false, false, false, false, false, true, false, false, false, false, false] rfl rfl (by kernel_rfl) (fun _ _ _ h => h) (Or.inl ⟨by rfl, ?_⟩) hHeld ?_ ?_
   rotate_left
   ·rintro w' ⟨s0, s1, s2⟩
    go_simp
    with_reducible rfl
   rotate_left
   ·simp only [Act.put, List.setIfInBounds_toArray, List.set_cons_zero, List.set_cons_succ, i64_w, i32_w]
    rfl
   refine take_ (i := 3) (N := some 57) (v := ?_) (a' := ?_) #[true, true, false, true, false, false, false, false, true, false, false, false, false, false] rfl rfl (by kernel_rfl) (fun _ _ _ h => h) (Or.inl ⟨by rfl, ?_⟩) hHeld ?_ ?_
   rotate_left
   ·rintro w' ⟨s0, s1, s2⟩
    go_simp
    with_reducible rfl
   rotate_left
   ·simp only [Act.put, List.setIfInBounds_toArray, List.set_cons_zero, List.set_cons_succ, i64_w, i32_w]
    rfl
   refine pure_ (i := 4) (N := some 58) (v := ?_) (a' := ?_) #[true, true, false, true, true, false, false, false, true, false, false, false, false, false] rfl rfl (by kernel_rfl) (fun _ _ _ h => h) (Or.inl ⟨by rfl, ?_⟩) ?_ ?_
   rotate_left
   ·intro w'
    go_simp
    with_reducible rfl
   rotate_left
   ·simp only [Act.put, List.setIfInBounds_toArray, List.set_cons_zero, List.set_cons_succ, i64_w, i32_w]
    rfl
   refine pure_ (i := 5) (N := some 59) (v := ?_) (a' := ?_) #[true, true, false, true, true, true, false, false, true, false, false, false, false, false] rfl rfl (by kernel_rfl) (fun _ _ _ h => h) (Or.inl ⟨by rfl, ?_⟩) ?_ ?_
   rotate_left
   ·intro w'
    go_simp
    with_reducible rfl
   rotate_left
   ·simp only [Act.put, List.setIfInBounds_toArray, List.set_cons_zero, List.set_cons_succ, i64_w, i32_w]
    rfl
   refine pure_ (i := 6) (N := some 60) (v := ?_) (a' := ?_) #[true, true, false, true, true, true, true, false, true, false, false, false, false, false] rfl rfl (by kernel_rfl) (fun _ _ _ h => h) (Or.inl ⟨by rfl, ?_⟩) ?_ ?_
   rotate_left
   ·intro w'
    go_simp
    with_reducible rfl
   rotate_left
   ·simp only [Act.put, List.setIfInBounds_toArray, List.set_cons_zero, List.set_cons_succ, i64_w, i32_w]
    rfl
   refine take_ (i := 7) (N := some 61) (v := ?_) (a' := ?_) #[true, true, false, true, true, true, true, true, true, false, false, false, false, false] rfl rfl (by kernel_rfl) (fun _ _ _ h => h) (Or.inl ⟨by rfl, ?_⟩) hHeld ?_ ?_
   rotate_left
   ·rintro w' ⟨s0, s1, s2⟩
    go_simp
    with_reducible rfl
   rotate_left
   ·simp only [Act.put, List.setIfInBounds_toArray, List.set_cons_zero, List.set_cons_succ, i64_w, i32_w]
    rfl
   refine pure_ (i := 9) (N := some 63) (v := ?_) (a' := ?_) #[true, true, false, true, true, true, true, true, true, true, false, false, false, false] rfl rfl (by kernel_rfl) (fun _ _ _ h => h) (Or.inl ⟨by rfl, ?_⟩) ?_ ?_
   rotate_left
   ·intro w'
    go_simp
    with_reducible rfl
   rotate_left
   ·simp only [Act.put, List.setIfInBounds_toArray, List.set_cons_zero, List.set_cons_succ, i64_w, i32_w]
    rfl
   refine pure_ (i := 10) (N := some 64) (v := ?_) (a' := ?_) #[true, true, false, true, true, true, true, true, true, true, true, false, false, false] rfl rfl (by kernel_rfl) (fun _ _ _ h => h) (Or.inl ⟨by rfl, ?_⟩) ?_ ?_
   rotate_left
   ·intro w'
    go_simp
    with_reducible rfl
   rotate_left
   ·simp only [Act.put, List.setIfInBounds_toArray, List.set_cons_zero, List.set_cons_succ, i64_w, i32_w]
    rfl
   refine take_ (i := 11) (N := some 65) (v := ?_) (a' := ?_) #[true, true, false, true, true, true, true, true, true, true, true, true, false, false] rfl rfl (by kernel_rfl) (fun _ _ _ h => h) (Or.inl ⟨by rfl, ?_⟩) hHeld ?_ ?_
   rotate_left
   ·rintro w' ⟨s0, s1, s2⟩
    go_simp
    with_reducible rfl
   rotate_left
   ·simp only [Act.put, List.setIfInBounds_toArray, List.set_cons_zero, List.set_cons_succ, i64_w, i32_w]
    rfl
   refine one_ (i := 2) (N := some 56) #[true, true, true, true, true, true, true, true, true, true, true, true, false, false] rfl rfl (by kernel_rfl) (by decide) (fun K hK => ?_)
   refine goes_ Try.func54 (by kernel_rfl) rfl #[.pointer (some ⟨p, 0, none⟩), .int .i64 pp] (by rfl) rfl rfl (by simp only [List.map_toArray, List.map_cons, List.map_nil]; rfl) ?_
   with_reducible refine (HPB.out _ (below_drew HB4a.out)).mono ?_
   rintro e_ W4ap ⟨v_, rfl, hr_, hb_⟩
   obtain ⟨Aw, cw, rfl, hle_, hCw_⟩ := Kd.R_reads hr_
   refine ⟨_, rfl, ?_⟩
   have HCw := Lib.hid hCw_
   have y1 := pw_cell_below hb_ (cel_drew cp0)
   have y2 := pw_cell_below hb_ (cel_drew x1)
   have HB4ap := Lib.hid (below_step (below_drew (HB4a.out)) hb_)
   have X34ap := Lib.hid (blk_below (blk_drew (X34a.out)) hb_)
   have X54ap := Lib.hid (blk_below (blk_drew (X54a.out)) hb_)
   clear hb_
   have c34ap : W4ap.cell? ⟨w.heap.size, 0, none⟩ = some (.pointer (some ⟨p, 0, none⟩)) := (blk_cell X34ap.out 0).trans rfl
   clear hr_ hCw_
   refine hK.out _ _ ⟨c34ap, y1, y2⟩ (fun hHeld => ?_)
   clear hK K
   refine norm_ (a' := ?_) ?_ ?_
   rotate_left
   ·show Act.put _ (some 56) _ = _
    simp only [Act.put, List.setIfInBounds_toArray, List.set_cons_zero, List.set_cons_succ, i64_w, i32_w]
    rfl
   refine pure_ (i := 12) (N := some 10) (v := ?_) (a' := ?_) #[true, true, true, true, true, true, true, true, true, true, true, true, true, false] rfl rfl (by kernel_rfl) (fun _ _ _ h => h) (Or.inl ⟨by rfl, ?_⟩) ?_ ?_
   rotate_left
   ·intro w'
    go_simp
    with_reducible rfl
   rotate_left
   ·simp only [Act.put, List.setIfInBounds_toArray, List.set_cons_zero, List.set_cons_succ, i64_w, i32_w]
    rfl
   refine pure_ (i := 13) (N := some 11) (v := ?_) (a' := ?_) #[true, true, true, true, true, true, true, true, true, true, true, true, true, true] rfl rfl (by kernel_rfl) (fun _ _ _ h => h) (Or.inl ⟨by rfl, ?_⟩) ?_ ?_
   rotate_left
   ·intro w'
    go_simp
    with_reducible rfl
   rotate_left
   ·simp only [Act.put, List.setIfInBounds_toArray, List.set_cons_zero, List.set_cons_succ, i64_w, i32_w]
    rfl
   refine done_ (by kernel_rfl) ?_
   have c544ap : W4ap.cell? ⟨w.heap.size + 1, 4, none⟩ = some (.slice (some adK) kl.length c) := (blk_cell X54ap.out 4).trans rfl
   go_wp2_with fail
   obtain ⟨fb, hfb⟩ : ∃ fb, fb = fitsF ns ol (kl.drop 1) wl := ⟨_, rfl⟩
   have HT := HRT.out
   rw [← hfb] at HT
   have HQ := HFT.out w.heap.size Aw cw wl _ HB4ap.out HCw.out hle_ X34ap.out
   rw [← hfb] at HQ
   clear hfb
   refine HQ.mono ?_
   rintro e_ W4apb ⟨rfl, hb_⟩
   have HB4apb := Lib.hid (below_step (HB4ap.out) hb_)
   have X34apb := Lib.hid (blk_below (X34ap.out) hb_)
   have X54apb := Lib.hid (blk_below (X54ap.out) hb_)
   clear hb_
   have c534apb : W4apb.cell? ⟨w.heap.size + 1, 3, none⟩ = some (.string tx) := (blk_cell X54apb.out 3).trans rfl
   have c34apb : W4apb.cell? ⟨w.heap.size, 0, none⟩ = some (.pointer (some ⟨p, 0, none⟩)) := (blk_cell X34apb.out 0).trans rfl
   clear HQ HR HRT HPA HFT
   cases fb with
   | false =>
    go_wp2_with fail
    refine (told_is false _).mono ?_
    rintro e_ w_ ⟨rfl, rfl⟩
    have hR : R = 5 := by rw [HT]; rfl
    subst hR
    clear HT
    go_wp2_with fail
    go_ret
    exact ⟨rfl, HB4apb.out⟩
   | true =>
    rw [Bool.true_and, decide_eq_false ht2, Bool.false_or] at HT
    by_cases ha0 : an = 0
    ·subst ha0
     go_wp2_with fail
     refine (told_is false _).mono ?_
     rintro e_ w_ ⟨rfl, rfl⟩
     have hR : R = 5 := by rw [HT]; simp
     subst hR
     clear HT
     go_wp2_with fail
     go_ret
     exact ⟨rfl, HB4apb.out⟩
    ·have ha1 : decide (an ≠ 0) = true := decide_eq_true ha0
     rw [ha1, Bool.true_and] at HT
     have ha1c : (an != 0) = true := by simpa using ha0
     go_wp2_with fail
     refine (HKD.out _ HB4apb.out).mono ?_
     rintro e_ W4apbk ⟨rfl, hb_⟩
     have HB4apbk := Lib.hid (below_step (HB4apb.out) hb_)
     have X34apbk := Lib.hid (blk_below (X34apb.out) hb_)
     have X54apbk := Lib.hid (blk_below (X54apb.out) hb_)
     clear hb_
     by_cases hka : kt = an
     ·subst hka
      go_wp2_with fail
      refine (told_is true _).mono ?_
      rintro e_ w_ ⟨rfl, rfl⟩
      have hR : R = 0 := by rw [HT]; simp [*]
      subst hR
      clear HT
      go_wp2_with fail
      go_ret
      exact ⟨rfl, HB4apbk.out⟩
     ·have hkb : (kt == an) = false := by simpa using hka
      go_wp2_with fail
      refine (told_is false _).mono ?_
      rintro e_ w_ ⟨rfl, rfl⟩
      have hR : R = 5 := by rw [HT]; simp [hka]
      subst hR
      clear HT
      go_wp2_with fail
      go_ret
      exact ⟨rfl, HB4apbk.out⟩
  ·skip
   go_wp2_with fail
   refine (HM2.out W3 HB3.out).mono ?_
   rintro e_ W4 ⟨rfl, hb_⟩
   have HB4 := Lib.hid (below_step (HB3.out) hb_)
   have X34 := Lib.hid (blk_below (X33.out) hb_)
   have X54 := Lib.hid (blk_below (X53.out) hb_)
   clear hb_
   clear c33 c533
   by_cases hd2 : d2 = -1
   ·have hR3 : R = 3 := by have h := HR.out; rw [if_pos (.inr ⟨ht2, hd2⟩)] at h; exact h
    subst hR3
    subst hd2
    clear HR HD HPR
    go_wp2_with fail
    go_ret
    exact ⟨rfl, HB4.out⟩
   have hx : ¬ (tx.data.toList ≠ [] ∧ d2 = -1) := fun e => hd2 e.2
   have HX := Lib.hid hx
   have hd2b : (d2 == -1) = false := by simpa using hd2
   have hb_ : Below W4.heap.size W4 (W4.alloc (.cells #[.int .i64 1] 3)) := below_alloc (Below.refl _ _) _
   have ho_ := c_one W4 1
   obtain ⟨W4a, hW4a⟩ : ∃ W_, W_ = W4.alloc (.cells #[.int .i64 1] 3) := ⟨_, rfl⟩
   rw [← hW4a] at hb_ ho_
   have HO4a := Lib.hid ho_
   have HB4a := Lib.hid (below_step (HB4.out) hb_)
   have X34a := Lib.hid (blk_below (X34.out) hb_)
   have X54a := Lib.hid (blk_below (X54.out) hb_)
   clear hb_
   obtain ⟨bo', g', r', l', Lb', h⟩ := HS.out.below HB4a.out
   have cp0 : W4a.cell? ⟨p, 0, none⟩ = some (.slice (some ad) ns.length ct) := (blk_cell h.hp 0).trans rfl
   have c34a : W4a.cell? ⟨w.heap.size, 0, none⟩ = some (.pointer (some ⟨p, 0, none⟩)) := (blk_cell X34a.out 0).trans rfl
   have c544a : W4a.cell? ⟨w.heap.size + 1, 4, none⟩ = some (.slice (some adK) kl.length c) := (blk_cell X54a.out 4).trans rfl
   clear ho_
   have hdr := HD.out.resolve_left hd
   obtain ⟨ad', A5, c5, eA, x0, x1, x2, x3, x4, l5, g5⟩ := at_T101 h.hC d hdr.1 hdr.2
   have hn1 : nOf ns d = (rd_T101 ns d).f1 := rfl
   rw [← hn1] at x1
   obtain ⟨nd, hnd⟩ : ∃ nd, nd = nOf ns d := ⟨_, rfl⟩
   rw [← hnd] at x1
   have HND := Lib.hid hnd
   have e1 := eq_true hdr.1
   have e2 := eq_true hdr.2
   cases eA
   clear h x0 x2 x3 x4 l5 g5 hn1 hnd hdr
   subst hW4a
   by_cases hn4 : nd = 4
   ·subst hn4
    have hRT : R = if (fitsF ns ol (kl.drop 1) [1] && (decide (tx.data.toList = []) || (decide ((1 : Int) ≠ 0) && decide (kt = 1)))) = true then 0 else 5 := by have h := HR.out; rw [if_neg (by rintro (⟨e, _⟩ | e); exact hd e; exact HX.out e), if_neg hd, if_neg (by rw [← HND.out]; exact fun h => h rfl)] at h; exact h
    have HRT := Lib.hid hRT
    clear hRT
    go_wp2_with fail
    obtain ⟨fb, hfb⟩ : ∃ fb, fb = fitsF ns ol (kl.drop 1) [1] := ⟨_, rfl⟩
    have HT := HRT.out
    rw [← hfb] at HT
    have HQ := HFT.out w.heap.size _ 1 [1] _ HB4a.out HO4a.out (Nat.le_refl _) X34a.out
    rw [← hfb] at HQ
    clear hfb
    refine HQ.mono ?_
    rintro e_ W4ab ⟨rfl, hb_⟩
    have HB4ab := Lib.hid (below_step (HB4a.out) hb_)
    have X34ab := Lib.hid (blk_below (X34a.out) hb_)
    have X54ab := Lib.hid (blk_below (X54a.out) hb_)
    clear hb_
    have c534ab : W4ab.cell? ⟨w.heap.size + 1, 3, none⟩ = some (.string tx) := (blk_cell X54ab.out 3).trans rfl
    have c34ab : W4ab.cell? ⟨w.heap.size, 0, none⟩ = some (.pointer (some ⟨p, 0, none⟩)) := (blk_cell X34ab.out 0).trans rfl
    clear HQ HR HRT HPA HFT
    cases fb with
    | false =>
     go_wp2_with fail
     refine (told_is false _).mono ?_
     rintro e_ w_ ⟨rfl, rfl⟩
     have hR : R = 5 := by rw [HT]; rfl
     subst hR
     clear HT
     go_wp2_with fail
     go_ret
     exact ⟨rfl, HB4ab.out⟩
    | true =>
     rw [Bool.true_and, decide_eq_false ht2, Bool.false_or] at HT
     go_wp2_with fail
     refine (HKD.out _ HB4ab.out).mono ?_
     rintro e_ W4abk ⟨rfl, hb_⟩
     have HB4abk := Lib.hid (below_step (HB4ab.out) hb_)
     have X34abk := Lib.hid (blk_below (X34ab.out) hb_)
     have X54abk := Lib.hid (blk_below (X54ab.out) hb_)
     clear hb_
     by_cases hka : kt = 1
     ·subst hka
      go_wp2_with fail
      refine (told_is true _).mono ?_
      rintro e_ w_ ⟨rfl, rfl⟩
      have hR : R = 0 := by rw [HT]; simp
      subst hR
      clear HT
      go_wp2_with fail
      go_ret
      exact ⟨rfl, HB4abk.out⟩
     ·have hkb : (kt == 1) = false := by simpa using hka
      go_wp2_with fail
      refine (told_is false _).mono ?_
      rintro e_ w_ ⟨rfl, rfl⟩
      have hR : R = 5 := by rw [HT]; simp [hka]
      subst hR
      clear HT
      go_wp2_with fail
      go_ret
      exact ⟨rfl, HB4abk.out⟩
   ·have hR5 : R = 5 := by have h := HR.out; rw [if_neg (by rintro (⟨e, _⟩ | e); exact hd e; exact HX.out e), if_neg hd, if_pos (by rw [← HND.out]; exact hn4)] at h; exact h
    subst hR5
    clear HR
    go_wp2_with fail
    go_ret
    exact ⟨rfl, HB4a.out⟩
end Go.Proofs.Ytkhlfdcjgooogaa.P
