/- The document's Of and Or. -/
import Derived.Test.YtjcppnleoahaiaaDoorRefWith
namespace Go.Proofs.YtjcppnleoahaiaaDoor.P
open Go.RowKit Go.Proofs.YtjcppnleoahaiaaDoorW.PrintWords Go.Proofs.YtjcppnleoahaiaaDoorW.PrintLast Go.Proofs.YtjcppnleoahaiaaDoorW.PrintMore
set_option linter.unusedVariables false
set_option linter.unusedSimpArgs false
theorem refWith_any (m : Nat → Bool) (n : Int) (A : Option Addr) (c : Nat) (w : World) (hr : Kd.C (Kd.int .i64) w A (listF m).length (listF m)) (hc : (listF m).length ≤ c) :
    Calls Tryd.prog 14 #[.agg #[.slice A (listF m).length c], .int .i64 n] w fun e w' => RefIs w' (listF (withI m n)) e ∧ Below w.heap.size w w' := by
  have h4 := listF_len m
  by_cases hin : 0 ≤ n ∧ n < 4096
  · by_cases hm : n ∈ listF m
    · rw [with_has m n hm]
      exact refWith_keep A c _ n w (by omega) hr hc (.inr hm)
    · refine refWith_put A c _ _ n w (by omega) hr hc hin hm (fun k hk hlo hhi => with_list m n hin.1 hin.2 k hk hlo (fun h => ?_))
      have h1 := hhi h
      have h2 : ¬ n = (listF m)[k] := fun e => hm (e ▸ List.getElem_mem h)
      omega
  · rw [with_out m n hin]
    exact refWith_keep A c _ n w (by omega) hr hc (.inl hin)
theorem listF_ext {m m' : Nat → Bool} (h : ∀ n, n < 4096 → m n = m' n) : listF m = listF m' :=
  congrArg (List.map (fun (n : Nat) => (n : Int))) (List.filter_congr (fun x hx => h x (List.mem_range.1 hx)))
/-- A set, and the first numbers of a list. -/
def addS (m0 : Nat → Bool) (l : List Int) (k : Nat) (j : Nat) : Bool := m0 j || ofF (l.take k) j
theorem addS_next (m0 : Nat → Bool) (l : List Int) (k : Nat) (h : k < l.length) : listF (withI (addS m0 l k) l[k]) = listF (addS m0 l (k + 1)) := listF_ext (fun j _ => by
  simp only [withI, addS, ofF]
  rw [List.take_succ_eq_append_getElem h]
  simp only [List.mem_append, List.mem_singleton, Bool.decide_or, Bool.or_assoc])
theorem addS_none (m0 : Nat → Bool) (l : List Int) : listF (addS m0 l 0) = listF m0 := listF_ext (fun j _ => by simp [addS, ofF])
theorem addS_of (l : List Int) (k : Nat) (h : l.length ≤ k) : listF (addS (fun _ => false) l k) = listF (ofF l) := listF_ext (fun j _ => by simp only [addS, Bool.false_or]; rw [List.take_of_length_le h])
theorem addS_or (m m' : Nat → Bool) (k : Nat) (h : (listF m').length ≤ k) : listF (addS m (listF m') k) = listF (orF m m') := listF_ext (fun j hj => by
  simp only [addS, orF]
  rw [List.take_of_length_le h, ofF_list m' j hj])
theorem listF_nil : listF (fun _ => false) = [] := by decide +kernel
/-- What stands at a round's head: the set that grows, in block gs; the result's block g. -/
def GrowRel (w : World) (m0 : Nat → Bool) (l : List Int) (gs g : Nat) (F : World → Prop) (i : Value) (wr : World) : Prop := ∃ (k : Nat) (A : Option Addr) (c : Nat), k ≤ l.length ∧ i = .int .i64 k ∧ Hid (wr.heap[gs]? = some (.cells #[.slice A (listF (addS m0 l k)).length c] 30 (0, 0))) ∧ Hid (Kd.C (Kd.int .i64) wr A (listF (addS m0 l k)).length (listF (addS m0 l k))) ∧ Hid ((listF (addS m0 l k)).length ≤ c) ∧ Hid (wr.heap[g]? = some (.cells #[.slice none 0 0] 30 (0, 0))) ∧ Hid (Below w.heap.size w wr) ∧ Hid (F wr)
theorem C_zero (w : World) (A : Option Addr) : Kd.C (Kd.int .i64) w A 0 ([] : List Int) := ⟨rfl, by simp, fun h => absurd h (Nat.lt_irrefl 0)⟩
theorem blk_far {X : World} {g k : Nat} {o : Obj} {v : Value} (h : X.heap[k]? = some o) (hne : k ≠ g) : (X.setCell ⟨g, 0, none⟩ v).heap[k]? = some o := (Below.heap_setCell X ⟨g, 0, none⟩ v k hne).trans h
theorem C_far {X : World} {g : Nat} {A0 : Option Addr} {n0 c0 : Nat} {A : Option Addr} {l : List Int} {v : Value} (h : Kd.C (Kd.int .i64) X A l.length l) (hk : X.heap[g]? = some (.cells #[.slice A0 n0 c0] 30 (0, 0))) : Kd.C (Kd.int .i64) (X.setCell ⟨g, 0, none⟩ v) A l.length l := by
  refine Kd.C_keep (0 : Int) (g := g) h ⟨by simp [World.setCell], fun i hi hne _ => Below.heap_setCell X ⟨g, 0, none⟩ v i hne⟩ (fun ad hA hl => ?_)
  obtain ⟨b, off, e, _, hc⟩ := ints_at h 0 hl
  obtain rfl : ad = ⟨b, off, none⟩ := Option.some.inj (hA.symm.trans e)
  rintro rfl
  have h2 := blk_cell hk (off + 0)
  rw [hc] at h2
  match off, h2 with
  | 0, h2 => simp at h2
  | off + 1, h2 => simp at h2
set_option maxRecDepth 100000 in
set_option maxHeartbeats 4000000 in
theorem refOf_any (A : Option Addr) (c0 : Nat) (l : List Int) (w : World) (hr : Kd.C (Kd.int .i64) w A l.length l) (hc : l.length ≤ c0) :
    Calls Tryd.prog 11 #[.slice A l.length c0] w fun e w' => RefIs w' (listF (ofF l)) e ∧ Below w.heap.size w w' := by
  have HR := Lib.hid hr
  have HLEN := hr.2.1
  have hu30 := Tryd.underlying30
  obtain ⟨m0, hm0⟩ : ∃ m0 : Nat → Bool, m0 = fun _ => false := ⟨_, rfl⟩
  have HM0 := Lib.hid hm0
  clear hr hm0
  go_enter Tryd.func11, Tryd.ntmps11
  go_wp2_with fail
  obtain ⟨w2, hw2⟩ : ∃ W_, W_ = (w.alloc (.cells #[.slice none 0 0] 30)).alloc (.cells #[.slice none 0 0] 30) := ⟨_, rfl⟩
  rw [← hw2]
  have HB2 : Hid (Below w.heap.size w w2) := Lib.hid (by rw [hw2]; exact below_alloc (below_alloc (Below.refl _ _) _) _)
  have HG : Hid (w2.heap[w.heap.size]? = some (.cells #[.slice none 0 0] 30 (0, 0))) := Lib.hid (by rw [hw2]; exact blk_alloc (heap_alloc_new w _) _)
  have HS : Hid (w2.heap[w.heap.size + 1]? = some (.cells #[.slice none 0 0] 30 (0, 0))) := Lib.hid (by rw [hw2]; exact blk_new1 w _ _)
  clear hw2
  have e0 : listF (addS m0 l 0) = [] := by rw [addS_none, HM0.out, listF_nil]
  go_loopw [4] (fun i wr => GrowRel w m0 l (w.heap.size + 1) w.heap.size (fun _ => True) i wr) (fun i _ => l.length - (intOf i).toNat)
  case atStart => exact ⟨0, none, 0, Nat.zero_le _, rfl, Lib.hid (by rw [e0]; exact HS.out), Lib.hid (by rw [e0]; exact C_zero _ _), Lib.hid (by rw [e0]; exact Nat.le_refl _), HG, HB2, Lib.hid trivial⟩
  case round =>
    clear e0
    obtain ⟨k, A1, c1, hk, rfl, K1, CS, CC, KG, HB, _⟩ := hrel
    have hbr := HB.out
    have X1 := Lib.hid ((blk_cell K1.out 0).trans rfl)
    by_cases hlt : k < l.length
    · obtain ⟨b, off, rfl, hblt, hcell⟩ := ints_at (Kd.C_below HR.out HB.out) k hlt
      obtain ⟨x, hx⟩ : ∃ x, x = l[k] := ⟨_, rfl⟩
      rw [← hx] at hcell
      have HX := Lib.hid hx
      have XX := Lib.hid hcell
      have i0 : (0 : Int) ≤ (k : Int) := by omega
      have i1 : (k : Int) < (l.length : Int) := by omega
      clear hx hblt hcell hbr
      go_wp2_with fail
      refine start_ (n := 7) (S := fun w' => w'.cell? ⟨w.heap.size + 1, 0, none⟩ = some (.slice A1 (listF (addS m0 l k)).length c1) ∧ w'.cell? ⟨b, off + k, none⟩ = some (.int .i64 x)) (ds := [6]) #[false, false, false, false, false, false, false] (by kernel_rfl) rfl rfl ⟨cell_drew X1.out, cell_drew XX.out⟩ (fun hHeld => ?_)
      refine pure_ (i := 1) (N := some 13) (v := ?_) (a' := ?_) #[false, true, false, false, false, false, false] rfl rfl (by kernel_rfl) (fun _ _ _ h => h) (Or.inl ⟨by rfl, ?_⟩) ?_ ?_
      rotate_left
      · intro w'
        go_simp
        with_reducible rfl
      rotate_left
      · simp only [Act.put, List.setIfInBounds_toArray, List.set_cons_zero, List.set_cons_succ, i64_w, i32_w]
        rfl
      refine pure_ (i := 2) (N := some 14) (v := ?_) (a' := ?_) #[false, true, true, false, false, false, false] rfl rfl (by kernel_rfl) (fun _ _ _ h => h) (Or.inl ⟨by rfl, ?_⟩) ?_ ?_
      rotate_left
      · intro w'
        go_simp
        with_reducible rfl
      rotate_left
      · simp only [Act.put, List.setIfInBounds_toArray, List.set_cons_zero, List.set_cons_succ, i64_w, i32_w]
        rfl
      refine pure_ (i := 3) (N := some 15) (v := ?_) (a' := ?_) #[false, true, true, true, false, false, false] rfl rfl (by kernel_rfl) (fun _ _ _ h => h) (Or.inl ⟨by rfl, ?_⟩) ?_ ?_
      rotate_left
      · intro w'
        go_simp
        with_reducible rfl
      rotate_left
      · simp only [Act.put, List.setIfInBounds_toArray, List.set_cons_zero, List.set_cons_succ, i64_w, i32_w]
        rfl
      refine take_ (i := 0) (N := some 12) (v := ?_) (a' := ?_) #[true, true, true, true, false, false, false] rfl rfl (by kernel_rfl) (fun _ _ _ h => h) (Or.inl ⟨by rfl, ?_⟩) hHeld ?_ ?_
      rotate_left
      · rintro w' ⟨s0, s1⟩
        go_simp
        with_reducible rfl
      rotate_left
      · simp only [Act.put, List.setIfInBounds_toArray, List.set_cons_zero, List.set_cons_succ, i64_w, i32_w]
        rfl
      refine take_ (i := 4) (N := some 16) (v := ?_) (a' := ?_) #[true, true, true, true, true, false, false] rfl rfl (by kernel_rfl) (fun _ _ _ h => h) (Or.inl ⟨by rfl, ?_⟩) hHeld ?_ ?_
      rotate_left
      · rintro w' ⟨s0, s1⟩
        go_simp
        with_reducible rfl
      rotate_left
      · simp only [Act.put, List.setIfInBounds_toArray, List.set_cons_zero, List.set_cons_succ, i64_w, i32_w]
        rfl
      refine one_ (i := 5) (N := some 17) #[true, true, true, true, true, true, false] rfl rfl (by kernel_rfl) (by decide) (fun K hK => ?_)
      refine goes_ Tryd.func14 (by kernel_rfl) rfl #[.agg #[.slice A1 (listF (addS m0 l k)).length c1], .int .i64 x] (by rfl) rfl rfl (by simp only [List.map_toArray, List.map_cons, List.map_nil]; rfl) ?_
      with_reducible refine (refWith_any (addS m0 l k) x A1 c1 _ (Kd.C_drew CS.out) CC.out).mono ?_
      rintro e_ w5 ⟨⟨A5, c5, rfl, hC_, hc_⟩, hb_⟩
      refine ⟨_, rfl, ?_⟩
      have B5 := Lib.hid (below_step (below_drew HB.out) hb_)
      have BL := Lib.hid hb_
      have KS := Lib.hid (blk_below (blk_drew K1.out) hb_)
      have CF := Lib.hid hC_
      have CL := Lib.hid hc_
      have KG5 := Lib.hid (blk_below (blk_drew KG.out) hb_)
      have hcs_ : w5.cell? ⟨w.heap.size + 1, 0, none⟩ = some (.slice A1 (listF (addS m0 l k)).length c1) := (blk_cell KS.out 0).trans rfl
      have hfs_ := blk_frozen KS.out 0
      clear hb_ hC_ hc_
      refine hK.out _ _ ⟨pw_cell_below BL.out (cell_drew X1.out), pw_cell_below BL.out (cell_drew XX.out)⟩ (fun hHeld => ?_)
      clear hK K
      refine norm_ (a' := ?_) ?_ ?_
      rotate_left
      · show Act.put _ (some 17) _ = _
        simp only [Act.put, List.setIfInBounds_toArray, List.set_cons_zero, List.set_cons_succ, i64_w, i32_w]
        rfl
      refine last_ (i := 6) (N := none) #[true, true, true, true, true, true, true] rfl rfl (by kernel_rfl) (by decide) (fun K hK => ?_)
      refine skip_ (w1 := ?_) (by rfl) rfl ?_ ?_
      rotate_left
      · go_simp
        rfl
      refine hK.out _ _ ?_
      clear hK K
      refine done_ (by kernel_rfl) ?_
      go_wp2_with fail
      rw [show listF (withI (addS m0 l k) x) = listF (addS m0 l (k + 1)) from by rw [HX.out]; exact addS_next m0 l k hlt] at CF CL ⊢
      exact ⟨⟨k + 1, A5, c5, by omega, by norm_cast, Lib.hid (blk_put0 KS.out), Lib.hid (C_far CF.out KS.out), CL, Lib.hid (blk_far KG5.out (by omega)), Lib.hid (Below.setCell B5.out (p := ⟨_, _, none⟩) (by simp) _), Lib.hid trivial⟩, by first | (simp [intOf]; done) | (simp [intOf]; omega)⟩
    · obtain rfl : k = l.length := by omega
      have hcg_ : wr.cell? ⟨w.heap.size, 0, none⟩ = some (.slice none 0 0) := (blk_cell KG.out 0).trans rfl
      have hfg_ := blk_frozen KG.out 0
      have hx1_ := X1.out
      clear hbr
      go_wp2_with fail
      have hR_ := C_far (v := .slice A1 (listF (addS m0 l l.length)).length c1) CS.out KG.out
      have eA := Lib.hid (show listF (addS m0 l l.length) = listF (ofF l) by rw [HM0.out]; exact addS_of l l.length (Nat.le_refl _))
      refine bodyPost_ret (results_cell_row rfl _ _ (w.heap.size) 30 #[.slice A1 (listF (addS m0 l l.length)).length c1] (0, 0) _ rfl (blk_put0 KG.out) Tryd.underlying30 rfl (by kernel_rfl)) rfl ?_
      rw [← eA.out]
      exact ⟨⟨A1, c1, rfl, hR_, CC.out⟩, Below.setCell HB.out (p := ⟨w.heap.size, 0, none⟩) (by show w.heap.size ≤ w.heap.size; omega) _⟩
set_option maxRecDepth 100000 in
set_option maxHeartbeats 4000000 in
theorem refOr_any (m0 m' : Nat → Bool) (A : Option Addr) (c : Nat) (A' : Option Addr) (c0 : Nat) (w : World) (hr : Kd.C (Kd.int .i64) w A (listF m0).length (listF m0)) (hc : (listF m0).length ≤ c) (hr' : Kd.C (Kd.int .i64) w A' (listF m').length (listF m')) (hc' : (listF m').length ≤ c0) :
    Calls Tryd.prog 29 #[.agg #[.slice A (listF m0).length c], .agg #[.slice A' (listF m').length c0]] w fun e w' => RefIs w' (listF (orF m0 m')) e ∧ Below w.heap.size w w' := by
  obtain ⟨l, hl⟩ : ∃ l, l = listF m' := ⟨_, rfl⟩
  rw [← hl] at hr' hc' ⊢
  have HL2 := Lib.hid hl
  have HR := Lib.hid hr'
  have HR0 := Lib.hid hr
  have HC0 := Lib.hid hc
  have HLEN := hr'.2.1
  have hu30 := Tryd.underlying30
  clear hl hr hr' hc hc'
  go_enter Tryd.func29, Tryd.ntmps29
  go_wp2_with fail
  obtain ⟨w2, hw2⟩ : ∃ W_, W_ = ((w.alloc (.cells #[.slice A (listF m0).length c] 30)).alloc (.cells #[.slice A' l.length c0] 30)).alloc (.cells #[.slice none 0 0] 30) := ⟨_, rfl⟩
  rw [← hw2]
  have HB2 : Hid (Below w.heap.size w w2) := Lib.hid (by rw [hw2]; exact below_alloc (below_alloc (below_alloc (Below.refl _ _) _) _) _)
  have HS : Hid (w2.heap[w.heap.size]? = some (.cells #[.slice A (listF m0).length c] 30 (0, 0))) := Lib.hid (by rw [hw2]; exact blk_alloc (blk_alloc (heap_alloc_new w _) _) _)
  have HF : Hid (w2.heap[w.heap.size + 1]? = some (.cells #[.slice A' l.length c0] 30 (0, 0))) := Lib.hid (by rw [hw2]; exact blk_alloc (blk_new1 w _ _) _)
  have HG : Hid (w2.heap[w.heap.size + 1 + 1]? = some (.cells #[.slice none 0 0] 30 (0, 0))) := Lib.hid (by rw [hw2]; exact blk_new2 w _ _ _)
  have CC2 : Hid (Kd.C (Kd.int .i64) w2 A (listF m0).length (listF m0)) := Lib.hid (Kd.C_below HR0.out HB2.out)
  clear hw2
  have e0 : listF (addS m0 l 0) = listF m0 := addS_none m0 l
  go_loopw [5] (fun i wr => GrowRel w m0 l w.heap.size (w.heap.size + 1 + 1) (fun wr => wr.heap[w.heap.size + 1]? = some (.cells #[.slice A' l.length c0] 30 (0, 0))) i wr) (fun i _ => l.length - (intOf i).toNat)
  case atStart => exact ⟨0, A, c, Nat.zero_le _, rfl, Lib.hid (by rw [e0]; exact HS.out), Lib.hid (by rw [e0]; exact CC2.out), Lib.hid (by rw [e0]; exact HC0.out), HG, HB2, Lib.hid HF.out⟩
  case round =>
    clear e0
    obtain ⟨k, A1, c1, hk, rfl, K1, CS, CC, KG, HB, KF⟩ := hrel
    have hbr := HB.out
    have X1 := Lib.hid ((blk_cell K1.out 0).trans rfl)
    have hx0_ : wr.cell? ⟨w.heap.size + 1, 0, none⟩ = some (.slice A' l.length c0) := (blk_cell KF.out 0).trans rfl
    by_cases hlt : k < l.length
    · obtain ⟨b, off, rfl, hblt, hcell⟩ := ints_at (Kd.C_below HR.out HB.out) k hlt
      obtain ⟨x, hx⟩ : ∃ x, x = l[k] := ⟨_, rfl⟩
      rw [← hx] at hcell
      have HX := Lib.hid hx
      have XX := Lib.hid hcell
      have X0 := Lib.hid hx0_
      have i0 : (0 : Int) ≤ (k : Int) := by omega
      have i1 : (k : Int) < (l.length : Int) := by omega
      clear hx hblt hcell hbr
      go_wp2_with fail
      refine start_ (n := 8) (S := fun w' => w'.cell? ⟨w.heap.size, 0, none⟩ = some (.slice A1 (listF (addS m0 l k)).length c1) ∧ w'.cell? ⟨w.heap.size + 1, 0, none⟩ = some (.slice (some ⟨b, off, none⟩) l.length c0) ∧ w'.cell? ⟨b, off + k, none⟩ = some (.int .i64 x)) (ds := [7]) #[false, false, false, false, false, false, false, false] (by kernel_rfl) rfl rfl ⟨cell_drew X1.out, cell_drew X0.out, cell_drew XX.out⟩ (fun hHeld => ?_)
      refine pure_ (i := 1) (N := some 14) (v := ?_) (a' := ?_) #[false, true, false, false, false, false, false, false] rfl rfl (by kernel_rfl) (fun _ _ _ h => h) (Or.inl ⟨by rfl, ?_⟩) ?_ ?_
      rotate_left
      · intro w'
        go_simp
        with_reducible rfl
      rotate_left
      · simp only [Act.put, List.setIfInBounds_toArray, List.set_cons_zero, List.set_cons_succ, i64_w, i32_w]
        rfl
      refine pure_ (i := 3) (N := some 16) (v := ?_) (a' := ?_) #[false, true, false, true, false, false, false, false] rfl rfl (by kernel_rfl) (fun _ _ _ h => h) (Or.inl ⟨by rfl, ?_⟩) ?_ ?_
      rotate_left
      · intro w'
        go_simp
        with_reducible rfl
      rotate_left
      · simp only [Act.put, List.setIfInBounds_toArray, List.set_cons_zero, List.set_cons_succ, i64_w, i32_w]
        rfl
      refine take_ (i := 0) (N := some 13) (v := ?_) (a' := ?_) #[true, true, false, true, false, false, false, false] rfl rfl (by kernel_rfl) (fun _ _ _ h => h) (Or.inl ⟨by rfl, ?_⟩) hHeld ?_ ?_
      rotate_left
      · rintro w' ⟨s0, s1, s2⟩
        go_simp
        with_reducible rfl
      rotate_left
      · simp only [Act.put, List.setIfInBounds_toArray, List.set_cons_zero, List.set_cons_succ, i64_w, i32_w]
        rfl
      refine take_ (i := 2) (N := some 15) (v := ?_) (a' := ?_) #[true, true, true, true, false, false, false, false] rfl rfl (by kernel_rfl) (fun _ _ _ h => h) (Or.inl ⟨by rfl, ?_⟩) hHeld ?_ ?_
      rotate_left
      · rintro w' ⟨s0, s1, s2⟩
        go_simp
        with_reducible rfl
      rotate_left
      · simp only [Act.put, List.setIfInBounds_toArray, List.set_cons_zero, List.set_cons_succ, i64_w, i32_w]
        rfl
      refine pure_ (i := 4) (N := some 17) (v := ?_) (a' := ?_) #[true, true, true, true, true, false, false, false] rfl rfl (by kernel_rfl) (fun _ _ _ h => h) (Or.inl ⟨by rfl, ?_⟩) ?_ ?_
      rotate_left
      · intro w'
        go_simp
        with_reducible rfl
      rotate_left
      · simp only [Act.put, List.setIfInBounds_toArray, List.set_cons_zero, List.set_cons_succ, i64_w, i32_w]
        rfl
      refine take_ (i := 5) (N := some 18) (v := ?_) (a' := ?_) #[true, true, true, true, true, true, false, false] rfl rfl (by kernel_rfl) (fun _ _ _ h => h) (Or.inl ⟨by rfl, ?_⟩) hHeld ?_ ?_
      rotate_left
      · rintro w' ⟨s0, s1, s2⟩
        go_simp
        with_reducible rfl
      rotate_left
      · simp only [Act.put, List.setIfInBounds_toArray, List.set_cons_zero, List.set_cons_succ, i64_w, i32_w]
        rfl
      refine one_ (i := 6) (N := some 19) #[true, true, true, true, true, true, true, false] rfl rfl (by kernel_rfl) (by decide) (fun K hK => ?_)
      refine goes_ Tryd.func14 (by kernel_rfl) rfl #[.agg #[.slice A1 (listF (addS m0 l k)).length c1], .int .i64 x] (by rfl) rfl rfl (by simp only [List.map_toArray, List.map_cons, List.map_nil]; rfl) ?_
      with_reducible refine (refWith_any (addS m0 l k) x A1 c1 _ (Kd.C_drew CS.out) CC.out).mono ?_
      rintro e_ w5 ⟨⟨A5, c5, rfl, hC_, hc_⟩, hb_⟩
      refine ⟨_, rfl, ?_⟩
      have B5 := Lib.hid (below_step (below_drew HB.out) hb_)
      have BL := Lib.hid hb_
      have KS := Lib.hid (blk_below (blk_drew K1.out) hb_)
      have CF := Lib.hid hC_
      have CL := Lib.hid hc_
      have KG5 := Lib.hid (blk_below (blk_drew KG.out) hb_)
      have KF5 := Lib.hid (blk_below (blk_drew KF.out) hb_)
      have hcs_ : w5.cell? ⟨w.heap.size, 0, none⟩ = some (.slice A1 (listF (addS m0 l k)).length c1) := (blk_cell KS.out 0).trans rfl
      have hfs_ := blk_frozen KS.out 0
      clear hb_ hC_ hc_
      refine hK.out _ _ ⟨pw_cell_below BL.out (cell_drew X1.out), pw_cell_below BL.out (cell_drew X0.out), pw_cell_below BL.out (cell_drew XX.out)⟩ (fun hHeld => ?_)
      clear hK K
      refine norm_ (a' := ?_) ?_ ?_
      rotate_left
      · show Act.put _ (some 19) _ = _
        simp only [Act.put, List.setIfInBounds_toArray, List.set_cons_zero, List.set_cons_succ, i64_w, i32_w]
        rfl
      refine last_ (i := 7) (N := none) #[true, true, true, true, true, true, true, true] rfl rfl (by kernel_rfl) (by decide) (fun K hK => ?_)
      refine skip_ (w1 := ?_) (by rfl) rfl ?_ ?_
      rotate_left
      · go_simp
        rfl
      refine hK.out _ _ ?_
      clear hK K
      refine done_ (by kernel_rfl) ?_
      go_wp2_with fail
      rw [show listF (withI (addS m0 l k) x) = listF (addS m0 l (k + 1)) from by rw [HX.out]; exact addS_next m0 l k hlt] at CF CL ⊢
      exact ⟨⟨k + 1, A5, c5, by omega, by norm_cast, Lib.hid (blk_put0 KS.out), Lib.hid (C_far CF.out KS.out), CL, Lib.hid (blk_far KG5.out (by omega)), Lib.hid (Below.setCell B5.out (p := ⟨_, _, none⟩) (by simp) _), Lib.hid (blk_far KF5.out (by omega))⟩, by first | (simp [intOf]; done) | (simp [intOf]; omega)⟩
    · obtain rfl : k = l.length := by omega
      have hcg_ : wr.cell? ⟨w.heap.size + 1 + 1, 0, none⟩ = some (.slice none 0 0) := (blk_cell KG.out 0).trans rfl
      have hfg_ := blk_frozen KG.out 0
      have hx1_ := X1.out
      clear hbr
      go_wp2_with fail
      have hR_ := C_far (v := .slice A1 (listF (addS m0 l l.length)).length c1) CS.out KG.out
      have eA := Lib.hid (show listF (addS m0 l l.length) = listF (orF m0 m') by rw [HL2.out]; exact addS_or m0 m' _ (Nat.le_refl _))
      refine bodyPost_ret (results_cell_row rfl _ _ (w.heap.size + 1 + 1) 30 #[.slice A1 (listF (addS m0 l l.length)).length c1] (0, 0) _ rfl (blk_put0 KG.out) Tryd.underlying30 rfl (by kernel_rfl)) rfl ?_
      rw [← eA.out]
      exact ⟨⟨A1, c1, rfl, hR_, CC.out⟩, Below.setCell HB.out (p := ⟨w.heap.size + 1 + 1, 0, none⟩) (by show w.heap.size ≤ w.heap.size + 1 + 1; omega) _⟩
end Go.Proofs.YtjcppnleoahaiaaDoor.P
