/- The document's With. -/
import Derived.Test.YtjcppnleoahaiaaDoorBitsW
namespace Go.Proofs.YtjcppnleoahaiaaDoor.P
open Go.RowKit Go.Proofs.YtjcppnleoahaiaaDoorW.PrintWords Go.Proofs.YtjcppnleoahaiaaDoorW.PrintLast Go.Proofs.YtjcppnleoahaiaaDoorW.PrintMore
set_option linter.unusedVariables false
set_option linter.unusedSimpArgs false
theorem cell_drew {w : World} {p : Addr} {v : Value} (h : w.cell? p = some v) : w.drew.cell? p = some v := h
theorem refHas_any (A : Option Addr) (c : Nat) (l : List Int) (n : Int) (b : Bool) (hb : decide (n ∈ l) = b) (hl : l.length ≤ 1000000) (w : World) (hr : Kd.C (Kd.int .i64) w A l.length l) (hc : l.length ≤ c) :
    Calls Tryd.prog 18 #[.agg #[.slice A l.length c], .int .i64 n] w fun e w' => e = .returned (.bool b) ∧ Below w.heap.size w w' :=
  runnelref1_Set_Has.calls (l.length + 1) A c l n b w hr hc (by rw [has_f n l hl _ (by omega), hb])
/-- A set of the document's, as it lies in memory. -/
def RefIs (w' : World) (l : List Int) (e : Ending) : Prop := ∃ A' c', e = .returned (.agg #[.slice A' l.length c']) ∧ Kd.C (Kd.int .i64) w' A' l.length l ∧ l.length ≤ c'
theorem blk_put0 {X : World} {g : Nat} {old v : Value} {t : TypeId} (h : X.heap[g]? = some (.cells #[old] t (0, 0))) : (X.setCell ⟨g, 0, none⟩ v).heap[g]? = some (.cells #[v] t (0, 0)) := blk_put h 0 _ rfl
set_option maxRecDepth 100000 in
set_option maxHeartbeats 4000000 in
theorem refWith_keep (A : Option Addr) (c : Nat) (l : List Int) (n : Int) (w : World) (hl : l.length ≤ 1000000) (hr : Kd.C (Kd.int .i64) w A l.length l) (hc : l.length ≤ c) (h : ¬ (0 ≤ n ∧ n < 4096) ∨ n ∈ l) :
    Calls Tryd.prog 14 #[.agg #[.slice A l.length c], .int .i64 n] w fun e w' => RefIs w' l e ∧ Below w.heap.size w w' := by
  have HR := Lib.hid hr
  have HC := Lib.hid hc
  have hu30 := Tryd.underlying30
  clear hr hc
  by_cases hin : 0 ≤ n ∧ n < 4096
  · have hm : n ∈ l := h.resolve_left (fun hh => hh hin)
    have HM : Hid (decide (n ∈ l) = true) := Lib.hid (decide_eq_true hm)
    clear hm h
    have t1 : decide (n < 0) = false := by simp; omega
    have t2 : decide (4096 ≤ n) = false := by simp; omega
    go_enter Tryd.func14, Tryd.ntmps14
    go_wp2_with fail
    refine (refHas_any A c l n true HM.out hl _ (by (with_reducible repeat (first | apply Kd.C_alloc | apply Kd.C_drewN | apply Kd.C_drew)); exact HR.out) HC.out).mono ?_
    rintro e_ w3 ⟨rfl, hb_⟩
    have c2 : w3.cell? ⟨w.heap.size, 0, none⟩ = some (.slice A l.length c) := pw_cell_below hb_ ((blk_cell (blk_alloc (heap_alloc_new w (.cells #[.slice A l.length c] 30)) (.cells #[.slice none 0 0] 30)) 0).trans rfl)
    have K4 := blk_below (blk_new1 w (.cells #[.slice A l.length c] 30) (.cells #[.slice none 0 0] 30)) hb_
    have c4 : w3.cell? ⟨w.heap.size + 1, 0, none⟩ = some (.slice none 0 0) := (blk_cell K4 0).trans rfl
    have f4 := blk_frozen K4 0
    have H4 := Lib.hid K4
    have HB : Hid (Below w.heap.size w w3) := Lib.hid (below_step (below_alloc (below_alloc (Below.refl _ _) _) _) hb_)
    clear K4 hb_
    go_wp2_with fail
    refine bodyPost_ret (results_cell_row rfl _ _ (w.heap.size + 1) 30 #[.slice A l.length c] (0, 0) _ rfl (blk_put0 H4.out) Tryd.underlying30 rfl (by kernel_rfl)) rfl ?_
    exact ⟨⟨A, c, rfl, Kd.C_below HR.out (Below.setCell HB.out (p := ⟨_, _, none⟩) (by simp) _), HC.out⟩, Below.setCell HB.out (p := ⟨_, _, none⟩) (by simp) _⟩
  · clear h
    by_cases h0 : n < 0
    · have t1 : decide (n < 0) = true := decide_eq_true h0
      go_enter Tryd.func14, Tryd.ntmps14
      go_wp2_with fail
      refine bodyPost_ret (results_cell_row rfl _ _ (w.heap.size + 1) 30 #[.slice A l.length c] (0, 0) _ rfl (blk_new1 _ _ _) Tryd.underlying30 rfl (by kernel_rfl)) rfl ?_
      exact ⟨⟨A, c, rfl, Kd.C_alloc (Kd.C_alloc HR.out _) _, HC.out⟩, below_alloc (below_alloc (Below.refl _ _) _) _⟩
    · have t1 : decide (n < 0) = false := decide_eq_false h0
      have t2 : decide (4096 ≤ n) = true := by simp; omega
      go_enter Tryd.func14, Tryd.ntmps14
      go_wp2_with fail
      refine bodyPost_ret (results_cell_row rfl _ _ (w.heap.size + 1) 30 #[.slice A l.length c] (0, 0) _ rfl (blk_new1 _ _ _) Tryd.underlying30 rfl (by kernel_rfl)) rfl ?_
      exact ⟨⟨A, c, rfl, Kd.C_alloc (Kd.C_alloc HR.out _) _, HC.out⟩, below_alloc (below_alloc (Below.refl _ _) _) _⟩
set_option maxRecDepth 100000 in
set_option maxHeartbeats 8000000 in
theorem refWith_put (A : Option Addr) (c : Nat) (l r : List Int) (n : Int) (w : World) (hl : l.length ≤ 1000000) (hr : Kd.C (Kd.int .i64) w A l.length l) (hc : l.length ≤ c) (hin : 0 ≤ n ∧ n < 4096) (hm : ¬ n ∈ l)
    (hput : ∀ k, k ≤ l.length → (∀ t (h : t < l.length), t < k → l[t] < n) → (∀ h : k < l.length, n ≤ l[k]) → l.take k ++ [n] ++ l.drop k = r) :
    Calls Tryd.prog 14 #[.agg #[.slice A l.length c], .int .i64 n] w fun e w' => RefIs w' r e ∧ Below w.heap.size w w' := by
  have HR := Lib.hid hr
  have HC := Lib.hid hc
  have HPUT := Lib.hid hput
  have hu30 := Tryd.underlying30
  have HM : Hid (decide (n ∈ l) = false) := Lib.hid (decide_eq_false hm)
  clear hr hc hm hput
  have t1 : decide (n < 0) = false := by simp; omega
  have t2 : decide (4096 ≤ n) = false := by simp; omega
  go_enter Tryd.func14, Tryd.ntmps14
  go_wp2_with fail
  refine (refHas_any A c l n false HM.out hl _ (by (with_reducible repeat (first | apply Kd.C_alloc | apply Kd.C_drewN | apply Kd.C_drew)); exact HR.out) HC.out).mono ?_
  rintro e_ w3 ⟨rfl, hb_⟩
  have c2 : w3.cell? ⟨w.heap.size, 0, none⟩ = some (.slice A l.length c) := pw_cell_below hb_ ((blk_cell (blk_alloc (heap_alloc_new w (.cells #[.slice A l.length c] 30)) (.cells #[.slice none 0 0] 30)) 0).trans rfl)
  have K4 := blk_below (blk_new1 w (.cells #[.slice A l.length c] 30) (.cells #[.slice none 0 0] 30)) hb_
  have c4 : w3.cell? ⟨w.heap.size + 1, 0, none⟩ = some (.slice none 0 0) := (blk_cell K4 0).trans rfl
  have X2 := Lib.hid c2
  have X4 := Lib.hid c4
  have F4 := Lib.hid (blk_frozen K4 0)
  have LT4 := Lib.hid (blk_lt K4)
  have H4 := Lib.hid K4
  have HB : Hid (Below w.heap.size w w3) := Lib.hid (below_step (below_alloc (below_alloc (Below.refl _ _) _) _) hb_)
  have hTL : (l.length : Int) ≤ 1000000 := by omega
  clear K4 hb_ c4 t1 t2 HM
  go_wp2_with fail
  go_loop [5] (fun i => ∃ k : Nat, k ≤ l.length ∧ i = .int .i64 k ∧ Hid (∀ t (h : t < l.length), t < k → l[t] < n)) (fun i => l.length - (intOf i).toNat)
  case atStart => exact ⟨0, Nat.zero_le _, rfl, Lib.hid (fun t h h0 => by omega)⟩
  case round =>
    obtain ⟨k, hk, rfl, HLO⟩ := hrel
    by_cases hlt : k < l.length
    · obtain ⟨b, off, rfl, hblt, hcell⟩ := ints_at (Kd.C_below HR.out HB.out) k hlt
      obtain ⟨x, hx⟩ : ∃ x, x = l[k] := ⟨_, rfl⟩
      rw [← hx] at hcell
      have HX := Lib.hid hx
      clear hx hblt
      by_cases hxn : x < n
      · go_wp2_with fail
        go_round
        case rel => exact ⟨k + 1, by omega, by norm_cast, Lib.hid (fun t h h1 => by
          by_cases e : t = k
          · subst e; rw [← HX.out]; exact hxn
          · exact HLO.out t h (by omega))⟩
        case measure => first | (simp [intOf]; done) | (simp [intOf]; omega)
      · have HHI : ∀ h : k < l.length, n ≤ l[k] := fun _ => by rw [← HX.out]; omega
        have HTK : Hid (∀ W_, Below w.heap.size w W_ → Kd.C (Kd.int .i64) W_ (some (⟨b, off, none⟩ : Addr)) k (l.take k)) := Lib.hid (fun W_ hb_ => by have h_ := Kd.C_take (Kd.C_below HR.out hb_) (m := k) hk; rwa [List.length_take, Nat.min_eq_left hk] at h_)
        have HDK : Hid (∀ W_, Below w.heap.size w W_ → Kd.C (Kd.int .i64) W_ (some (⟨b, off + k, none⟩ : Addr)) (l.length - k) (l.drop k)) := Lib.hid (fun W_ hb_ => by have h_ := Kd.C_drop (Kd.C_below HR.out hb_) (m := k) hk HC.out; rw [List.length_drop, if_neg (by have := HC.out; omega)] at h_; have e_ : k * (Kd.int .i64).sz = k := Nat.mul_one k; rw [e_] at h_; have e2_ : (⟨b, off, none⟩ : Addr).add k = ⟨b, off + k, none⟩ := (by unfold Addr.add; split <;> simp_all); rw [Option.map_some, e2_] at h_; exact h_)
        have i4 : ¬ c = k := by have := HC.out; omega
        have HFIN : Hid (l.take k ++ [n] ++ l.drop k = r) := Lib.hid (by have h_ := HPUT.out k hk HLO.out HHI; exact h_)
        have i0 : (0 : Int) ≤ (k : Int) := by omega
        have i1 : (k : Int) ≤ (l.length : Int) := by omega
        have i2 : (l.length : Int) ≤ (c : Int) := by have := HC.out; omega
        have i3 : k ≤ c := by have := HC.out; omega
        go_wp2_with fail
        refine start_ (n := 16) (S := fun w' => w'.cell? ⟨w.heap.size, 0, none⟩ = some (.slice (some (⟨b, off, none⟩ : Addr)) l.length c)) (ds := [15]) #[false, false, false, false, false, false, false, false, false, false, false, false, false, false, false, false] (by kernel_rfl) rfl rfl (cell_drew X2.out) (fun hHeld => ?_)
        refine pure_ (i := 1) (N := some 35) (v := ?_) (a' := ?_) #[false, true, false, false, false, false, false, false, false, false, false, false, false, false, false, false] rfl rfl (by kernel_rfl) (fun _ _ _ h => h) (Or.inl ⟨by rfl, ?_⟩) ?_ ?_
        rotate_left
        · intro w'
          go_simp
          with_reducible rfl
        rotate_left
        · simp only [Act.put, List.setIfInBounds_toArray, List.set_cons_zero, List.set_cons_succ, i64_w, i32_w]
          rfl
        refine pure_ (i := 3) (N := some 37) (v := ?_) (a' := ?_) #[false, true, false, true, false, false, false, false, false, false, false, false, false, false, false, false] rfl rfl (by kernel_rfl) (fun _ _ _ h => h) (Or.inl ⟨by rfl, ?_⟩) ?_ ?_
        rotate_left
        · intro w'
          go_simp
          with_reducible rfl
        rotate_left
        · simp only [Act.put, List.setIfInBounds_toArray, List.set_cons_zero, List.set_cons_succ, i64_w, i32_w]
          rfl
        refine pure_ (i := 6) (N := some 40) (v := ?_) (a' := ?_) #[false, true, false, true, false, false, true, false, false, false, false, false, false, false, false, false] rfl rfl (by kernel_rfl) (fun _ _ _ h => h) (Or.inl ⟨by rfl, ?_⟩) ?_ ?_
        rotate_left
        · intro w'
          go_simp
          with_reducible rfl
        rotate_left
        · simp only [Act.put, List.setIfInBounds_toArray, List.set_cons_zero, List.set_cons_succ, i64_w, i32_w]
          rfl
        refine pure_ (i := 9) (N := some 43) (v := ?_) (a' := ?_) #[false, true, false, true, false, false, true, false, false, true, false, false, false, false, false, false] rfl rfl (by kernel_rfl) (fun _ _ _ h => h) (Or.inl ⟨by rfl, ?_⟩) ?_ ?_
        rotate_left
        · intro w'
          go_simp
          with_reducible rfl
        rotate_left
        · simp only [Act.put, List.setIfInBounds_toArray, List.set_cons_zero, List.set_cons_succ, i64_w, i32_w]
          rfl
        refine pure_ (i := 11) (N := some 45) (v := ?_) (a' := ?_) #[false, true, false, true, false, false, true, false, false, true, false, true, false, false, false, false] rfl rfl (by kernel_rfl) (fun _ _ _ h => h) (Or.inl ⟨by rfl, ?_⟩) ?_ ?_
        rotate_left
        · intro w'
          go_simp
          with_reducible rfl
        rotate_left
        · simp only [Act.put, List.setIfInBounds_toArray, List.set_cons_zero, List.set_cons_succ, i64_w, i32_w]
          rfl
        refine take_ (i := 2) (N := some 36) (v := ?_) (a' := ?_) #[false, true, true, true, false, false, true, false, false, true, false, true, false, false, false, false] rfl rfl (by kernel_rfl) (fun _ _ _ h => h) (Or.inl ⟨by rfl, ?_⟩) hHeld ?_ ?_
        rotate_left
        · intro w' s0
          go_simp
          with_reducible rfl
        rotate_left
        · simp only [Act.put, List.setIfInBounds_toArray, List.set_cons_zero, List.set_cons_succ, i64_w, i32_w]
          rfl
        refine pure_ (i := 4) (N := some 38) (v := ?_) (a' := ?_) #[false, true, true, true, true, false, true, false, false, true, false, true, false, false, false, false] rfl rfl (by kernel_rfl) (fun _ _ _ h => h) (Or.inl ⟨by rfl, ?_⟩) ?_ ?_
        rotate_left
        · intro w'
          go_simp
          with_reducible rfl
        rotate_left
        · simp only [Act.put, List.setIfInBounds_toArray, List.set_cons_zero, List.set_cons_succ, i64_w, i32_w]
          rfl
        refine take_ (i := 10) (N := some 44) (v := ?_) (a' := ?_) #[false, true, true, true, true, false, true, false, false, true, true, true, false, false, false, false] rfl rfl (by kernel_rfl) (fun _ _ _ h => h) (Or.inl ⟨by rfl, ?_⟩) hHeld ?_ ?_
        rotate_left
        · intro w' s0
          go_simp
          with_reducible rfl
        rotate_left
        · simp only [Act.put, List.setIfInBounds_toArray, List.set_cons_zero, List.set_cons_succ, i64_w, i32_w]
          rfl
        refine pure_ (i := 12) (N := some 46) (v := ?_) (a' := ?_) #[false, true, true, true, true, false, true, false, false, true, true, true, true, false, false, false] rfl rfl (by kernel_rfl) (fun _ _ _ h => h) (Or.inl ⟨by rfl, ?_⟩) ?_ ?_
        rotate_left
        · intro w'
          go_simp
          with_reducible rfl
        rotate_left
        · simp only [Act.put, List.setIfInBounds_toArray, List.set_cons_zero, List.set_cons_succ, i64_w, i32_w]
          rfl
        refine join_ (σ := Value × Value × Value) 4 #[true, true, true, true, true, true, true, true, false, true, true, true, true, false, false, false] (fun s => [(34, s.1), (39, s.2.1), (41, s.2.2)]) (fun s w' => Kd.R (Kd.int .i64) 3 w' w3.heap.size (fun _ => True) s.2.1 (l.take k) ∧ Kd.R (Kd.int .i64) 3 w' w3.heap.size (fun _ => True) s.2.2 [n] ∧ Below w3.heap.size w3 w') ?_ ?_
        rotate_left
        · intro hCont
          refine two_ (i := 0) (j := 7) (Ni := some 34) (Nj := some 41) #[true, true, true, true, true, false, true, false, false, true, true, true, true, false, false, false] #[false, true, true, true, true, false, true, true, false, true, true, true, true, false, false, false] rfl rfl rfl rfl (by kernel_rfl) (by decide) (by decide) (fun K hK => ?_) (fun K hK => ?_)
          · skip
            refine Kd.R_lit_step (Kd.int .i64) (w0 := w3) w3.heap.size 3 (by rfl) (N := 34) rfl (xs := ([] : List Int)) (inner := []) (ok := fun _ => True) (okp := fun _ => False) (by first | (go_simp; done) | (go_simp; rfl)) (Reps.none _ _) (fun _ h => h.elim) (trivial) (below_drew (Below.refl w3.heap.size w3)) ((below_drew (Below.refl w3.heap.size w3)).size) (by simp) ?_
            intro v34 w_0 hR_ hB_ hg_ hat_
            have R34_0 := Lib.hid hR_
            have B_0 := Lib.hid hB_
            clear hR_ hB_ hg_ hat_
            refine hK.out _ _ (pw_cell_below B_0.out X2.out) (fun hHeld => ?_)
            clear hK K
            refine norm_ (a' := ?_) ?_ ?_
            rotate_left
            · show Act.put _ (some 34) _ = _
              simp only [Act.put, List.setIfInBounds_toArray, List.set_cons_zero, List.set_cons_succ, i64_w, i32_w]
              rfl
            refine two_ (i := 5) (j := 7) (Ni := some 39) (Nj := some 41) #[true, true, true, true, true, true, true, false, false, true, true, true, true, false, false, false] #[true, true, true, true, true, false, true, true, false, true, true, true, true, false, false, false] rfl rfl rfl rfl (by kernel_rfl) (by decide) (by decide) (fun K hK => ?_) (fun K hK => ?_)
            · skip
              refine Kd.R_append_rows_step (Kd.int .i64) (Rr := (Kd.int .i64).K w) (w0 := w3) w3.heap.size (by rfl) (.tmp 34) (.tmp 38) 22 3 (.int .i64 0) 8 (by rfl) Tryd.underlying22 info3 rfl (by decide) (by omega) v34 ([]) (l.take k) (some (⟨b, off, none⟩ : Addr)) k _ (fun _ => True) (fun _ => False) (by rfl) (by rfl) (R34_0.out) (HTK.out _ (below_step HB.out (B_0.out))) (fun _ _ h => h) (fun _ h => h.elim) (fun _ _ => trivial) (B_0.out) ((B_0.out).size) (by first | (simp; done) | (simp; omega)) ?_
              intro v39 w_0_5 hR_ hB_ hg_ hat_
              have R39_0_5 : Hid (Kd.R (Kd.int .i64) 3 w_0_5 w3.heap.size (fun _ => True) v39 (l.take k)) := Lib.hid hR_
              have B_0_5 := Lib.hid hB_
              clear hR_ hB_ hg_ hat_
              refine hK.out _ _ (pw_cell_below B_0_5.out X2.out) (fun hHeld => ?_)
              clear hK K
              refine norm_ (a' := ?_) ?_ ?_
              rotate_left
              · show Act.put _ (some 39) _ = _
                simp only [Act.put, List.setIfInBounds_toArray, List.set_cons_zero, List.set_cons_succ, i64_w, i32_w]
                rfl
              refine one_ (i := 7) (N := some 41) #[true, true, true, true, true, true, true, true, false, true, true, true, true, false, false, false] rfl rfl (by kernel_rfl) (by decide) (fun K hK => ?_)
              refine Kd.R_lit_step (Kd.int .i64) (w0 := w3) w3.heap.size 3 (by rfl) (N := 41) rfl (xs := ([n] : List Int)) (inner := [.int .i64 n]) (ok := fun _ => True) (okp := fun _ => False) (by first | (go_simp; done) | (go_simp; rfl)) (Reps.front rfl rfl (Reps.none _ _) rfl) (fun _ h => h.elim) (trivial) (B_0_5.out) ((B_0_5.out).size) (by simp) ?_
              intro v41 w_0_5_7 hR_ hB_ hg_ hat_
              have R41_0_5_7 := Lib.hid hR_
              have R39_0_5_7 := Lib.hid (Kd.R_grown (R39_0_5.out) hg_ (fun k_ _ => by simp))
              have B_0_5_7 := Lib.hid hB_
              clear hR_ hB_ hg_ hat_
              refine hK.out _ _ (pw_cell_below B_0_5_7.out X2.out) (fun hHeld => ?_)
              clear hK K
              refine norm_ (a' := ?_) ?_ ?_
              rotate_left
              · show Act.put _ (some 41) _ = _
                simp only [Act.put, List.setIfInBounds_toArray, List.set_cons_zero, List.set_cons_succ, i64_w, i32_w]
                rfl
              exact norm_ (by simp only [putAll, Act.put, List.setIfInBounds_toArray, List.set_cons_zero, List.set_cons_succ]) (hCont (v34, v39, v41) _ ⟨R39_0_5_7.out, R41_0_5_7.out, B_0_5_7.out⟩)
            · skip
              refine Kd.R_lit_step (Kd.int .i64) (w0 := w3) w3.heap.size 3 (by rfl) (N := 41) rfl (xs := ([n] : List Int)) (inner := [.int .i64 n]) (ok := fun k_ => some k_ ≠ v34.ownBlock) (okp := fun _ => False) (by first | (go_simp; done) | (go_simp; rfl)) (Reps.front rfl rfl (Reps.none _ _) rfl) (fun _ h => h.elim) (fun h_ => absurd (Kd.R_lt (R34_0.out) _ h_.symm) (Nat.lt_irrefl _)) (B_0.out) ((B_0.out).size) (by simp) ?_
              intro v41 w_0_7 hR_ hB_ hg_ hat_
              have R41_0_7 := Lib.hid hR_
              have R34_0_7 := Lib.hid (Kd.R_grown (R34_0.out) hg_ (fun k_ _ => by simp))
              have B_0_7 := Lib.hid hB_
              clear hR_ hB_ hg_ hat_
              refine hK.out _ _ (pw_cell_below B_0_7.out X2.out) (fun hHeld => ?_)
              clear hK K
              refine norm_ (a' := ?_) ?_ ?_
              rotate_left
              · show Act.put _ (some 41) _ = _
                simp only [Act.put, List.setIfInBounds_toArray, List.set_cons_zero, List.set_cons_succ, i64_w, i32_w]
                rfl
              refine one_ (i := 5) (N := some 39) #[true, true, true, true, true, true, true, true, false, true, true, true, true, false, false, false] rfl rfl (by kernel_rfl) (by decide) (fun K hK => ?_)
              refine Kd.R_append_rows_step (Kd.int .i64) (Rr := (Kd.int .i64).K w) (w0 := w3) w3.heap.size (by rfl) (.tmp 34) (.tmp 38) 22 3 (.int .i64 0) 8 (by rfl) Tryd.underlying22 info3 rfl (by decide) (by omega) v34 ([]) (l.take k) (some (⟨b, off, none⟩ : Addr)) k _ (fun _ => True) (fun _ => False) (by rfl) (by rfl) (R34_0_7.out) (HTK.out _ (below_step HB.out (B_0_7.out))) (fun _ _ h => h) (fun _ h => h.elim) (fun _ _ => trivial) (B_0_7.out) ((B_0_7.out).size) (by first | (simp; done) | (simp; omega)) ?_
              intro v39 w_0_7_5 hR_ hB_ hg_ hat_
              have R39_0_7_5 : Hid (Kd.R (Kd.int .i64) 3 w_0_7_5 w3.heap.size (fun _ => True) v39 (l.take k)) := Lib.hid hR_
              have R41_0_7_5 : Hid (Kd.R (Kd.int .i64) 3 w_0_7_5 w3.heap.size (fun _ => True) v41 [n]) := Lib.hid (Kd.R_mono (Kd.R_grown (R41_0_7.out) hg_ (fun k_ hk_ => hk_)) (fun _ _ => trivial))
              have B_0_7_5 := Lib.hid hB_
              clear hR_ hB_ hg_ hat_
              refine hK.out _ _ (pw_cell_below B_0_7_5.out X2.out) (fun hHeld => ?_)
              clear hK K
              refine norm_ (a' := ?_) ?_ ?_
              rotate_left
              · show Act.put _ (some 39) _ = _
                simp only [Act.put, List.setIfInBounds_toArray, List.set_cons_zero, List.set_cons_succ, i64_w, i32_w]
                rfl
              exact norm_ (by simp only [putAll, Act.put, List.setIfInBounds_toArray, List.set_cons_zero, List.set_cons_succ]) (hCont (v34, v39, v41) _ ⟨R39_0_7_5.out, R41_0_7_5.out, B_0_7_5.out⟩)
          · skip
            refine Kd.R_lit_step (Kd.int .i64) (w0 := w3) w3.heap.size 3 (by rfl) (N := 41) rfl (xs := ([n] : List Int)) (inner := [.int .i64 n]) (ok := fun _ => True) (okp := fun _ => False) (by first | (go_simp; done) | (go_simp; rfl)) (Reps.front rfl rfl (Reps.none _ _) rfl) (fun _ h => h.elim) (trivial) (below_drew (Below.refl w3.heap.size w3)) ((below_drew (Below.refl w3.heap.size w3)).size) (by simp) ?_
            intro v41 w_7 hR_ hB_ hg_ hat_
            have R41_7 := Lib.hid hR_
            have B_7 := Lib.hid hB_
            clear hR_ hB_ hg_ hat_
            refine hK.out _ _ (pw_cell_below B_7.out X2.out) (fun hHeld => ?_)
            clear hK K
            refine norm_ (a' := ?_) ?_ ?_
            rotate_left
            · show Act.put _ (some 41) _ = _
              simp only [Act.put, List.setIfInBounds_toArray, List.set_cons_zero, List.set_cons_succ, i64_w, i32_w]
              rfl
            refine one_ (i := 0) (N := some 34) #[true, true, true, true, true, false, true, true, false, true, true, true, true, false, false, false] rfl rfl (by kernel_rfl) (by decide) (fun K hK => ?_)
            refine Kd.R_lit_step (Kd.int .i64) (w0 := w3) w3.heap.size 3 (by rfl) (N := 34) rfl (xs := ([] : List Int)) (inner := []) (ok := fun _ => True) (okp := fun _ => False) (by first | (go_simp; done) | (go_simp; rfl)) (Reps.none _ _) (fun _ h => h.elim) (trivial) (B_7.out) ((B_7.out).size) (by simp) ?_
            intro v34 w_7_0 hR_ hB_ hg_ hat_
            have R34_7_0 := Lib.hid hR_
            have R41_7_0 : Hid (Kd.R (Kd.int .i64) 3 w_7_0 w3.heap.size (fun k_ => some k_ ≠ v34.ownBlock) v41 [n]) := Lib.hid (Kd.R_mono (Kd.R_grown (Kd.R_bound (R41_7.out)) hg_ (fun k_ _ => by simp)) (fun k_ hk_ => by obtain ⟨b_, e_, hb_⟩ := hat_; have h3_ := hk_.2.2.1; rw [e_]; intro h_; injection h_ with h_; omega))
            have B_7_0 := Lib.hid hB_
            clear hR_ hB_ hg_ hat_
            refine hK.out _ _ (pw_cell_below B_7_0.out X2.out) (fun hHeld => ?_)
            clear hK K
            refine norm_ (a' := ?_) ?_ ?_
            rotate_left
            · show Act.put _ (some 34) _ = _
              simp only [Act.put, List.setIfInBounds_toArray, List.set_cons_zero, List.set_cons_succ, i64_w, i32_w]
              rfl
            refine one_ (i := 5) (N := some 39) #[true, true, true, true, true, true, true, true, false, true, true, true, true, false, false, false] rfl rfl (by kernel_rfl) (by decide) (fun K hK => ?_)
            refine Kd.R_append_rows_step (Kd.int .i64) (Rr := (Kd.int .i64).K w) (w0 := w3) w3.heap.size (by rfl) (.tmp 34) (.tmp 38) 22 3 (.int .i64 0) 8 (by rfl) Tryd.underlying22 info3 rfl (by decide) (by omega) v34 ([]) (l.take k) (some (⟨b, off, none⟩ : Addr)) k _ (fun _ => True) (fun _ => False) (by rfl) (by rfl) (R34_7_0.out) (HTK.out _ (below_step HB.out (B_7_0.out))) (fun _ _ h => h) (fun _ h => h.elim) (fun _ _ => trivial) (B_7_0.out) ((B_7_0.out).size) (by first | (simp; done) | (simp; omega)) ?_
            intro v39 w_7_0_5 hR_ hB_ hg_ hat_
            have R39_7_0_5 : Hid (Kd.R (Kd.int .i64) 3 w_7_0_5 w3.heap.size (fun _ => True) v39 (l.take k)) := Lib.hid hR_
            have R41_7_0_5 : Hid (Kd.R (Kd.int .i64) 3 w_7_0_5 w3.heap.size (fun _ => True) v41 [n]) := Lib.hid (Kd.R_mono (Kd.R_grown (R41_7_0.out) hg_ (fun k_ hk_ => hk_)) (fun _ _ => trivial))
            have B_7_0_5 := Lib.hid hB_
            clear hR_ hB_ hg_ hat_
            refine hK.out _ _ (pw_cell_below B_7_0_5.out X2.out) (fun hHeld => ?_)
            clear hK K
            refine norm_ (a' := ?_) ?_ ?_
            rotate_left
            · show Act.put _ (some 39) _ = _
              simp only [Act.put, List.setIfInBounds_toArray, List.set_cons_zero, List.set_cons_succ, i64_w, i32_w]
              rfl
            exact norm_ (by simp only [putAll, Act.put, List.setIfInBounds_toArray, List.set_cons_zero, List.set_cons_succ]) (hCont (v34, v39, v41) _ ⟨R39_7_0_5.out, R41_7_0_5.out, B_7_0_5.out⟩)
        rintro ⟨v34, v39, v41⟩ wF ⟨hF1, hF2, hF3⟩
        have RF1 := Lib.hid hF1
        have BF := Lib.hid hF3
        obtain ⟨A41, c41, e41_, hc41_, hC41_⟩ := Kd.R_reads hF2
        have CF := Lib.hid hC41_
        replace e41_ : v41 = .slice A41 [n].length c41 := e41_
        subst e41_
        have hHeld := pw_cell_below hF3 X2.out
        clear hF1 hF2 hF3 hc41_ hC41_
        refine norm_ (a' := ?_) ?_ ?_
        rotate_left
        · simp only [putAll, Act.put, List.setIfInBounds_toArray, List.set_cons_zero, List.set_cons_succ]
          rfl
        refine one_ (i := 8) (N := some 42) #[true, true, true, true, true, true, true, true, true, true, true, true, true, false, false, false] rfl rfl (by kernel_rfl) (by decide) (fun K hK => ?_)
        refine Kd.R_append_rows_step (Kd.int .i64) (Rr := (Kd.int .i64).K w) (w0 := w3) w3.heap.size (by rfl) (.tmp 39) (.tmp 41) 22 3 (.int .i64 0) 8 (by rfl) Tryd.underlying22 info3 rfl (by decide) (by omega) v39 (l.take k) ([n]) A41 _ _ (fun _ => True) (fun _ => False) (by rfl) (by rfl) (RF1.out) (CF.out) (fun _ _ h => h) (fun _ h => h.elim) (fun _ _ => trivial) (BF.out) (BF.out.size) (by first | (simp; done) | (simp; omega)) ?_
        intro v42 w8 hR_ hB_ hg_ hat_
        have R42 := Lib.hid hR_
        have B8 := Lib.hid hB_
        clear hR_ hB_ hg_ hat_
        refine hK.out _ _ (pw_cell_below B8.out X2.out) (fun hHeld => ?_)
        clear hK K
        refine norm_ (a' := ?_) ?_ ?_
        rotate_left
        · show Act.put _ (some 42) _ = _
          simp only [Act.put, List.setIfInBounds_toArray, List.set_cons_zero, List.set_cons_succ, i64_w, i32_w]
          rfl
        refine one_ (i := 13) (N := some 47) #[true, true, true, true, true, true, true, true, true, true, true, true, true, true, false, false] rfl rfl (by kernel_rfl) (by decide) (fun K hK => ?_)
        refine Kd.R_append_rows_step (Kd.int .i64) (Rr := (Kd.int .i64).K w) (w0 := w3) w3.heap.size (by rfl) (.tmp 42) (.tmp 46) 22 3 (.int .i64 0) 8 (by rfl) Tryd.underlying22 info3 rfl (by decide) (by omega) v42 (l.take k ++ [n]) (l.drop k) _ _ _ (fun _ => True) (fun _ => False) (by rfl) (by rfl) (R42.out) (HDK.out _ (below_step HB.out B8.out)) (fun _ _ h => h) (fun _ h => h.elim) (fun _ _ => trivial) (B8.out) (B8.out.size) (by first | (simp; done) | (simp; omega)) ?_
        intro v47 w13 hR_ hB_ hg_ hat_
        have B13 := Lib.hid hB_
        rw [HFIN.out] at hR_
        obtain ⟨A47, c47, rfl, hc47_, hC47_⟩ := Kd.R_reads hR_
        have R47 := Lib.hid hR_
        have hc4_ := pw_cell_below B13.out X4.out
        have hf4_ := (B13.out.frozen (p := ⟨w.heap.size + 1, 0, none⟩) LT4.out).trans F4.out
        clear hR_ hB_ hg_ hat_ hc47_ hC47_
        refine hK.out _ _ (pw_cell_below B13.out X2.out) (fun hHeld => ?_)
        clear hK K
        refine norm_ (a' := ?_) ?_ ?_
        rotate_left
        · show Act.put _ (some 47) _ = _
          simp only [Act.put, List.setIfInBounds_toArray, List.set_cons_zero, List.set_cons_succ, i64_w, i32_w]
          rfl
        refine pure_ (i := 14) (N := some 48) (v := ?_) (a' := ?_) #[true, true, true, true, true, true, true, true, true, true, true, true, true, true, true, false] rfl rfl (by kernel_rfl) (fun _ _ _ h => h) (Or.inl ⟨by rfl, ?_⟩) ?_ ?_
        rotate_left
        · intro w'
          go_simp
          with_reducible rfl
        rotate_left
        · simp only [Act.put, List.setIfInBounds_toArray, List.set_cons_zero, List.set_cons_succ, i64_w, i32_w]
          rfl
        refine last_ (i := 15) (N := none) #[true, true, true, true, true, true, true, true, true, true, true, true, true, true, true, true] rfl rfl (by kernel_rfl) (by decide) (fun K hK => ?_)
        refine skip_ (w1 := ?_) (by rfl) rfl ?_ ?_
        rotate_left
        · go_simp
          rfl
        refine hK.out _ _ ?_
        clear hK K
        refine done_ (by kernel_rfl) ?_
        go_wp2_with fail
        all_goals
          refine bodyPost_ret (results_cell_row rfl _ _ (w.heap.size + 1) 30 #[.slice A47 r.length c47] (0, 0) _ rfl (blk_put0 (blk_below H4.out B13.out)) Tryd.underlying30 rfl (by kernel_rfl)) rfl ?_
          have hF_ := Kd.R_reads' (Kd.R_far (p := ⟨w.heap.size + 1, 0, none⟩) (Kd.R_types R47.out (blk_below H4.out B13.out) (by decide)) (fun _ hk => hk.2) (.slice A47 r.length c47))
          exact ⟨⟨A47, c47, rfl, hF_.2.2, hF_.2.1⟩, Below.setCell (below_step HB.out B13.out) (p := ⟨_, _, none⟩) (by simp) _⟩
    · have HHI : ∀ h : k < l.length, n ≤ l[k] := fun h => absurd h hlt
      have HTK : Hid (∀ W_, Below w.heap.size w W_ → Kd.C (Kd.int .i64) W_ A k (l.take k)) := Lib.hid (fun W_ hb_ => by have h_ := Kd.C_take (Kd.C_below HR.out hb_) (m := k) hk; rwa [List.length_take, Nat.min_eq_left hk] at h_)
      have HDK : Hid (∀ (A_ : Option Addr) W_, Below w.heap.size w W_ → Kd.C (Kd.int .i64) W_ A_ 0 ([] : List Int)) := Lib.hid (fun A_ W_ _ => ⟨rfl, by simp, fun h => absurd h (Nat.lt_irrefl 0)⟩)
      have HFIN : Hid (l.take k ++ [n] ++ [] = r) := Lib.hid (by have h_ := HPUT.out k hk HLO.out HHI; rw [List.drop_of_length_le (by omega)] at h_; exact h_)
      have i0 : (0 : Int) ≤ (k : Int) := by omega
      have i1 : (k : Int) ≤ (l.length : Int) := by omega
      have i2 : (l.length : Int) ≤ (c : Int) := by have := HC.out; omega
      have i3 : k ≤ c := by have := HC.out; omega
      have e0_ : l.length - k = 0 := by omega
      go_wp2_with fail
      refine start_ (n := 16) (S := fun w' => w'.cell? ⟨w.heap.size, 0, none⟩ = some (.slice A l.length c)) (ds := [15]) #[false, false, false, false, false, false, false, false, false, false, false, false, false, false, false, false] (by kernel_rfl) rfl rfl (cell_drew X2.out) (fun hHeld => ?_)
      refine pure_ (i := 1) (N := some 35) (v := ?_) (a' := ?_) #[false, true, false, false, false, false, false, false, false, false, false, false, false, false, false, false] rfl rfl (by kernel_rfl) (fun _ _ _ h => h) (Or.inl ⟨by rfl, ?_⟩) ?_ ?_
      rotate_left
      · intro w'
        go_simp
        with_reducible rfl
      rotate_left
      · simp only [Act.put, List.setIfInBounds_toArray, List.set_cons_zero, List.set_cons_succ, i64_w, i32_w]
        rfl
      refine pure_ (i := 3) (N := some 37) (v := ?_) (a' := ?_) #[false, true, false, true, false, false, false, false, false, false, false, false, false, false, false, false] rfl rfl (by kernel_rfl) (fun _ _ _ h => h) (Or.inl ⟨by rfl, ?_⟩) ?_ ?_
      rotate_left
      · intro w'
        go_simp
        with_reducible rfl
      rotate_left
      · simp only [Act.put, List.setIfInBounds_toArray, List.set_cons_zero, List.set_cons_succ, i64_w, i32_w]
        rfl
      refine pure_ (i := 6) (N := some 40) (v := ?_) (a' := ?_) #[false, true, false, true, false, false, true, false, false, false, false, false, false, false, false, false] rfl rfl (by kernel_rfl) (fun _ _ _ h => h) (Or.inl ⟨by rfl, ?_⟩) ?_ ?_
      rotate_left
      · intro w'
        go_simp
        with_reducible rfl
      rotate_left
      · simp only [Act.put, List.setIfInBounds_toArray, List.set_cons_zero, List.set_cons_succ, i64_w, i32_w]
        rfl
      refine pure_ (i := 9) (N := some 43) (v := ?_) (a' := ?_) #[false, true, false, true, false, false, true, false, false, true, false, false, false, false, false, false] rfl rfl (by kernel_rfl) (fun _ _ _ h => h) (Or.inl ⟨by rfl, ?_⟩) ?_ ?_
      rotate_left
      · intro w'
        go_simp
        with_reducible rfl
      rotate_left
      · simp only [Act.put, List.setIfInBounds_toArray, List.set_cons_zero, List.set_cons_succ, i64_w, i32_w]
        rfl
      refine pure_ (i := 11) (N := some 45) (v := ?_) (a' := ?_) #[false, true, false, true, false, false, true, false, false, true, false, true, false, false, false, false] rfl rfl (by kernel_rfl) (fun _ _ _ h => h) (Or.inl ⟨by rfl, ?_⟩) ?_ ?_
      rotate_left
      · intro w'
        go_simp
        with_reducible rfl
      rotate_left
      · simp only [Act.put, List.setIfInBounds_toArray, List.set_cons_zero, List.set_cons_succ, i64_w, i32_w]
        rfl
      refine take_ (i := 2) (N := some 36) (v := ?_) (a' := ?_) #[false, true, true, true, false, false, true, false, false, true, false, true, false, false, false, false] rfl rfl (by kernel_rfl) (fun _ _ _ h => h) (Or.inl ⟨by rfl, ?_⟩) hHeld ?_ ?_
      rotate_left
      · intro w' s0
        go_simp
        with_reducible rfl
      rotate_left
      · simp only [Act.put, List.setIfInBounds_toArray, List.set_cons_zero, List.set_cons_succ, i64_w, i32_w]
        rfl
      refine pure_ (i := 4) (N := some 38) (v := ?_) (a' := ?_) #[false, true, true, true, true, false, true, false, false, true, false, true, false, false, false, false] rfl rfl (by kernel_rfl) (fun _ _ _ h => h) (Or.inl ⟨by rfl, ?_⟩) ?_ ?_
      rotate_left
      · intro w'
        go_simp
        with_reducible rfl
      rotate_left
      · simp only [Act.put, List.setIfInBounds_toArray, List.set_cons_zero, List.set_cons_succ, i64_w, i32_w]
        rfl
      refine take_ (i := 10) (N := some 44) (v := ?_) (a' := ?_) #[false, true, true, true, true, false, true, false, false, true, true, true, false, false, false, false] rfl rfl (by kernel_rfl) (fun _ _ _ h => h) (Or.inl ⟨by rfl, ?_⟩) hHeld ?_ ?_
      rotate_left
      · intro w' s0
        go_simp
        with_reducible rfl
      rotate_left
      · simp only [Act.put, List.setIfInBounds_toArray, List.set_cons_zero, List.set_cons_succ, i64_w, i32_w]
        rfl
      refine pure_ (i := 12) (N := some 46) (v := ?_) (a' := ?_) #[false, true, true, true, true, false, true, false, false, true, true, true, true, false, false, false] rfl rfl (by kernel_rfl) (fun _ _ _ h => h) (Or.inl ⟨by rfl, ?_⟩) ?_ ?_
      rotate_left
      · intro w'
        go_simp
        with_reducible rfl
      rotate_left
      · simp only [Act.put, List.setIfInBounds_toArray, List.set_cons_zero, List.set_cons_succ, i64_w, i32_w]
        rfl
      refine join_ (σ := Value × Value × Value) 4 #[true, true, true, true, true, true, true, true, false, true, true, true, true, false, false, false] (fun s => [(34, s.1), (39, s.2.1), (41, s.2.2)]) (fun s w' => Kd.R (Kd.int .i64) 3 w' w3.heap.size (fun _ => True) s.2.1 (l.take k) ∧ Kd.R (Kd.int .i64) 3 w' w3.heap.size (fun _ => True) s.2.2 [n] ∧ Below w3.heap.size w3 w') ?_ ?_
      rotate_left
      · intro hCont
        refine two_ (i := 0) (j := 7) (Ni := some 34) (Nj := some 41) #[true, true, true, true, true, false, true, false, false, true, true, true, true, false, false, false] #[false, true, true, true, true, false, true, true, false, true, true, true, true, false, false, false] rfl rfl rfl rfl (by kernel_rfl) (by decide) (by decide) (fun K hK => ?_) (fun K hK => ?_)
        · skip
          refine Kd.R_lit_step (Kd.int .i64) (w0 := w3) w3.heap.size 3 (by rfl) (N := 34) rfl (xs := ([] : List Int)) (inner := []) (ok := fun _ => True) (okp := fun _ => False) (by first | (go_simp; done) | (go_simp; rfl)) (Reps.none _ _) (fun _ h => h.elim) (trivial) (below_drew (Below.refl w3.heap.size w3)) ((below_drew (Below.refl w3.heap.size w3)).size) (by simp) ?_
          intro v34 w_0 hR_ hB_ hg_ hat_
          have R34_0 := Lib.hid hR_
          have B_0 := Lib.hid hB_
          clear hR_ hB_ hg_ hat_
          refine hK.out _ _ (pw_cell_below B_0.out X2.out) (fun hHeld => ?_)
          clear hK K
          refine norm_ (a' := ?_) ?_ ?_
          rotate_left
          · show Act.put _ (some 34) _ = _
            simp only [Act.put, List.setIfInBounds_toArray, List.set_cons_zero, List.set_cons_succ, i64_w, i32_w]
            rfl
          refine two_ (i := 5) (j := 7) (Ni := some 39) (Nj := some 41) #[true, true, true, true, true, true, true, false, false, true, true, true, true, false, false, false] #[true, true, true, true, true, false, true, true, false, true, true, true, true, false, false, false] rfl rfl rfl rfl (by kernel_rfl) (by decide) (by decide) (fun K hK => ?_) (fun K hK => ?_)
          · skip
            refine Kd.R_append_rows_step (Kd.int .i64) (Rr := (Kd.int .i64).K w) (w0 := w3) w3.heap.size (by rfl) (.tmp 34) (.tmp 38) 22 3 (.int .i64 0) 8 (by rfl) Tryd.underlying22 info3 rfl (by decide) (by omega) v34 ([]) (l.take k) A k _ (fun _ => True) (fun _ => False) (by rfl) (by rfl) (R34_0.out) (HTK.out _ (below_step HB.out (B_0.out))) (fun _ _ h => h) (fun _ h => h.elim) (fun _ _ => trivial) (B_0.out) ((B_0.out).size) (by first | (simp; done) | (simp; omega)) ?_
            intro v39 w_0_5 hR_ hB_ hg_ hat_
            have R39_0_5 : Hid (Kd.R (Kd.int .i64) 3 w_0_5 w3.heap.size (fun _ => True) v39 (l.take k)) := Lib.hid hR_
            have B_0_5 := Lib.hid hB_
            clear hR_ hB_ hg_ hat_
            refine hK.out _ _ (pw_cell_below B_0_5.out X2.out) (fun hHeld => ?_)
            clear hK K
            refine norm_ (a' := ?_) ?_ ?_
            rotate_left
            · show Act.put _ (some 39) _ = _
              simp only [Act.put, List.setIfInBounds_toArray, List.set_cons_zero, List.set_cons_succ, i64_w, i32_w]
              rfl
            refine one_ (i := 7) (N := some 41) #[true, true, true, true, true, true, true, true, false, true, true, true, true, false, false, false] rfl rfl (by kernel_rfl) (by decide) (fun K hK => ?_)
            refine Kd.R_lit_step (Kd.int .i64) (w0 := w3) w3.heap.size 3 (by rfl) (N := 41) rfl (xs := ([n] : List Int)) (inner := [.int .i64 n]) (ok := fun _ => True) (okp := fun _ => False) (by first | (go_simp; done) | (go_simp; rfl)) (Reps.front rfl rfl (Reps.none _ _) rfl) (fun _ h => h.elim) (trivial) (B_0_5.out) ((B_0_5.out).size) (by simp) ?_
            intro v41 w_0_5_7 hR_ hB_ hg_ hat_
            have R41_0_5_7 := Lib.hid hR_
            have R39_0_5_7 := Lib.hid (Kd.R_grown (R39_0_5.out) hg_ (fun k_ _ => by simp))
            have B_0_5_7 := Lib.hid hB_
            clear hR_ hB_ hg_ hat_
            refine hK.out _ _ (pw_cell_below B_0_5_7.out X2.out) (fun hHeld => ?_)
            clear hK K
            refine norm_ (a' := ?_) ?_ ?_
            rotate_left
            · show Act.put _ (some 41) _ = _
              simp only [Act.put, List.setIfInBounds_toArray, List.set_cons_zero, List.set_cons_succ, i64_w, i32_w]
              rfl
            exact norm_ (by simp only [putAll, Act.put, List.setIfInBounds_toArray, List.set_cons_zero, List.set_cons_succ]) (hCont (v34, v39, v41) _ ⟨R39_0_5_7.out, R41_0_5_7.out, B_0_5_7.out⟩)
          · skip
            refine Kd.R_lit_step (Kd.int .i64) (w0 := w3) w3.heap.size 3 (by rfl) (N := 41) rfl (xs := ([n] : List Int)) (inner := [.int .i64 n]) (ok := fun k_ => some k_ ≠ v34.ownBlock) (okp := fun _ => False) (by first | (go_simp; done) | (go_simp; rfl)) (Reps.front rfl rfl (Reps.none _ _) rfl) (fun _ h => h.elim) (fun h_ => absurd (Kd.R_lt (R34_0.out) _ h_.symm) (Nat.lt_irrefl _)) (B_0.out) ((B_0.out).size) (by simp) ?_
            intro v41 w_0_7 hR_ hB_ hg_ hat_
            have R41_0_7 := Lib.hid hR_
            have R34_0_7 := Lib.hid (Kd.R_grown (R34_0.out) hg_ (fun k_ _ => by simp))
            have B_0_7 := Lib.hid hB_
            clear hR_ hB_ hg_ hat_
            refine hK.out _ _ (pw_cell_below B_0_7.out X2.out) (fun hHeld => ?_)
            clear hK K
            refine norm_ (a' := ?_) ?_ ?_
            rotate_left
            · show Act.put _ (some 41) _ = _
              simp only [Act.put, List.setIfInBounds_toArray, List.set_cons_zero, List.set_cons_succ, i64_w, i32_w]
              rfl
            refine one_ (i := 5) (N := some 39) #[true, true, true, true, true, true, true, true, false, true, true, true, true, false, false, false] rfl rfl (by kernel_rfl) (by decide) (fun K hK => ?_)
            refine Kd.R_append_rows_step (Kd.int .i64) (Rr := (Kd.int .i64).K w) (w0 := w3) w3.heap.size (by rfl) (.tmp 34) (.tmp 38) 22 3 (.int .i64 0) 8 (by rfl) Tryd.underlying22 info3 rfl (by decide) (by omega) v34 ([]) (l.take k) A k _ (fun _ => True) (fun _ => False) (by rfl) (by rfl) (R34_0_7.out) (HTK.out _ (below_step HB.out (B_0_7.out))) (fun _ _ h => h) (fun _ h => h.elim) (fun _ _ => trivial) (B_0_7.out) ((B_0_7.out).size) (by first | (simp; done) | (simp; omega)) ?_
            intro v39 w_0_7_5 hR_ hB_ hg_ hat_
            have R39_0_7_5 : Hid (Kd.R (Kd.int .i64) 3 w_0_7_5 w3.heap.size (fun _ => True) v39 (l.take k)) := Lib.hid hR_
            have R41_0_7_5 : Hid (Kd.R (Kd.int .i64) 3 w_0_7_5 w3.heap.size (fun _ => True) v41 [n]) := Lib.hid (Kd.R_mono (Kd.R_grown (R41_0_7.out) hg_ (fun k_ hk_ => hk_)) (fun _ _ => trivial))
            have B_0_7_5 := Lib.hid hB_
            clear hR_ hB_ hg_ hat_
            refine hK.out _ _ (pw_cell_below B_0_7_5.out X2.out) (fun hHeld => ?_)
            clear hK K
            refine norm_ (a' := ?_) ?_ ?_
            rotate_left
            · show Act.put _ (some 39) _ = _
              simp only [Act.put, List.setIfInBounds_toArray, List.set_cons_zero, List.set_cons_succ, i64_w, i32_w]
              rfl
            exact norm_ (by simp only [putAll, Act.put, List.setIfInBounds_toArray, List.set_cons_zero, List.set_cons_succ]) (hCont (v34, v39, v41) _ ⟨R39_0_7_5.out, R41_0_7_5.out, B_0_7_5.out⟩)
        · skip
          refine Kd.R_lit_step (Kd.int .i64) (w0 := w3) w3.heap.size 3 (by rfl) (N := 41) rfl (xs := ([n] : List Int)) (inner := [.int .i64 n]) (ok := fun _ => True) (okp := fun _ => False) (by first | (go_simp; done) | (go_simp; rfl)) (Reps.front rfl rfl (Reps.none _ _) rfl) (fun _ h => h.elim) (trivial) (below_drew (Below.refl w3.heap.size w3)) ((below_drew (Below.refl w3.heap.size w3)).size) (by simp) ?_
          intro v41 w_7 hR_ hB_ hg_ hat_
          have R41_7 := Lib.hid hR_
          have B_7 := Lib.hid hB_
          clear hR_ hB_ hg_ hat_
          refine hK.out _ _ (pw_cell_below B_7.out X2.out) (fun hHeld => ?_)
          clear hK K
          refine norm_ (a' := ?_) ?_ ?_
          rotate_left
          · show Act.put _ (some 41) _ = _
            simp only [Act.put, List.setIfInBounds_toArray, List.set_cons_zero, List.set_cons_succ, i64_w, i32_w]
            rfl
          refine one_ (i := 0) (N := some 34) #[true, true, true, true, true, false, true, true, false, true, true, true, true, false, false, false] rfl rfl (by kernel_rfl) (by decide) (fun K hK => ?_)
          refine Kd.R_lit_step (Kd.int .i64) (w0 := w3) w3.heap.size 3 (by rfl) (N := 34) rfl (xs := ([] : List Int)) (inner := []) (ok := fun _ => True) (okp := fun _ => False) (by first | (go_simp; done) | (go_simp; rfl)) (Reps.none _ _) (fun _ h => h.elim) (trivial) (B_7.out) ((B_7.out).size) (by simp) ?_
          intro v34 w_7_0 hR_ hB_ hg_ hat_
          have R34_7_0 := Lib.hid hR_
          have R41_7_0 : Hid (Kd.R (Kd.int .i64) 3 w_7_0 w3.heap.size (fun k_ => some k_ ≠ v34.ownBlock) v41 [n]) := Lib.hid (Kd.R_mono (Kd.R_grown (Kd.R_bound (R41_7.out)) hg_ (fun k_ _ => by simp)) (fun k_ hk_ => by obtain ⟨b_, e_, hb_⟩ := hat_; have h3_ := hk_.2.2.1; rw [e_]; intro h_; injection h_ with h_; omega))
          have B_7_0 := Lib.hid hB_
          clear hR_ hB_ hg_ hat_
          refine hK.out _ _ (pw_cell_below B_7_0.out X2.out) (fun hHeld => ?_)
          clear hK K
          refine norm_ (a' := ?_) ?_ ?_
          rotate_left
          · show Act.put _ (some 34) _ = _
            simp only [Act.put, List.setIfInBounds_toArray, List.set_cons_zero, List.set_cons_succ, i64_w, i32_w]
            rfl
          refine one_ (i := 5) (N := some 39) #[true, true, true, true, true, true, true, true, false, true, true, true, true, false, false, false] rfl rfl (by kernel_rfl) (by decide) (fun K hK => ?_)
          refine Kd.R_append_rows_step (Kd.int .i64) (Rr := (Kd.int .i64).K w) (w0 := w3) w3.heap.size (by rfl) (.tmp 34) (.tmp 38) 22 3 (.int .i64 0) 8 (by rfl) Tryd.underlying22 info3 rfl (by decide) (by omega) v34 ([]) (l.take k) A k _ (fun _ => True) (fun _ => False) (by rfl) (by rfl) (R34_7_0.out) (HTK.out _ (below_step HB.out (B_7_0.out))) (fun _ _ h => h) (fun _ h => h.elim) (fun _ _ => trivial) (B_7_0.out) ((B_7_0.out).size) (by first | (simp; done) | (simp; omega)) ?_
          intro v39 w_7_0_5 hR_ hB_ hg_ hat_
          have R39_7_0_5 : Hid (Kd.R (Kd.int .i64) 3 w_7_0_5 w3.heap.size (fun _ => True) v39 (l.take k)) := Lib.hid hR_
          have R41_7_0_5 : Hid (Kd.R (Kd.int .i64) 3 w_7_0_5 w3.heap.size (fun _ => True) v41 [n]) := Lib.hid (Kd.R_mono (Kd.R_grown (R41_7_0.out) hg_ (fun k_ hk_ => hk_)) (fun _ _ => trivial))
          have B_7_0_5 := Lib.hid hB_
          clear hR_ hB_ hg_ hat_
          refine hK.out _ _ (pw_cell_below B_7_0_5.out X2.out) (fun hHeld => ?_)
          clear hK K
          refine norm_ (a' := ?_) ?_ ?_
          rotate_left
          · show Act.put _ (some 39) _ = _
            simp only [Act.put, List.setIfInBounds_toArray, List.set_cons_zero, List.set_cons_succ, i64_w, i32_w]
            rfl
          exact norm_ (by simp only [putAll, Act.put, List.setIfInBounds_toArray, List.set_cons_zero, List.set_cons_succ]) (hCont (v34, v39, v41) _ ⟨R39_7_0_5.out, R41_7_0_5.out, B_7_0_5.out⟩)
      rintro ⟨v34, v39, v41⟩ wF ⟨hF1, hF2, hF3⟩
      have RF1 := Lib.hid hF1
      have BF := Lib.hid hF3
      obtain ⟨A41, c41, e41_, hc41_, hC41_⟩ := Kd.R_reads hF2
      have CF := Lib.hid hC41_
      replace e41_ : v41 = .slice A41 [n].length c41 := e41_
      subst e41_
      have hHeld := pw_cell_below hF3 X2.out
      clear hF1 hF2 hF3 hc41_ hC41_
      refine norm_ (a' := ?_) ?_ ?_
      rotate_left
      · simp only [putAll, Act.put, List.setIfInBounds_toArray, List.set_cons_zero, List.set_cons_succ]
        rfl
      refine one_ (i := 8) (N := some 42) #[true, true, true, true, true, true, true, true, true, true, true, true, true, false, false, false] rfl rfl (by kernel_rfl) (by decide) (fun K hK => ?_)
      refine Kd.R_append_rows_step (Kd.int .i64) (Rr := (Kd.int .i64).K w) (w0 := w3) w3.heap.size (by rfl) (.tmp 39) (.tmp 41) 22 3 (.int .i64 0) 8 (by rfl) Tryd.underlying22 info3 rfl (by decide) (by omega) v39 (l.take k) ([n]) A41 _ _ (fun _ => True) (fun _ => False) (by rfl) (by rfl) (RF1.out) (CF.out) (fun _ _ h => h) (fun _ h => h.elim) (fun _ _ => trivial) (BF.out) (BF.out.size) (by first | (simp; done) | (simp; omega)) ?_
      intro v42 w8 hR_ hB_ hg_ hat_
      have R42 := Lib.hid hR_
      have B8 := Lib.hid hB_
      clear hR_ hB_ hg_ hat_
      refine hK.out _ _ (pw_cell_below B8.out X2.out) (fun hHeld => ?_)
      clear hK K
      refine norm_ (a' := ?_) ?_ ?_
      rotate_left
      · show Act.put _ (some 42) _ = _
        simp only [Act.put, List.setIfInBounds_toArray, List.set_cons_zero, List.set_cons_succ, i64_w, i32_w]
        rfl
      refine one_ (i := 13) (N := some 47) #[true, true, true, true, true, true, true, true, true, true, true, true, true, true, false, false] rfl rfl (by kernel_rfl) (by decide) (fun K hK => ?_)
      refine Kd.R_append_rows_step (Kd.int .i64) (Rr := (Kd.int .i64).K w) (w0 := w3) w3.heap.size (by rfl) (.tmp 42) (.tmp 46) 22 3 (.int .i64 0) 8 (by rfl) Tryd.underlying22 info3 rfl (by decide) (by omega) v42 (l.take k ++ [n]) ([]) _ _ _ (fun _ => True) (fun _ => False) (by rfl) (by rfl) (R42.out) (HDK.out _ _ (below_step HB.out B8.out)) (fun _ _ h => h) (fun _ h => h.elim) (fun _ _ => trivial) (B8.out) (B8.out.size) (by first | (simp; done) | (simp; omega)) ?_
      intro v47 w13 hR_ hB_ hg_ hat_
      have B13 := Lib.hid hB_
      rw [HFIN.out] at hR_
      obtain ⟨A47, c47, rfl, hc47_, hC47_⟩ := Kd.R_reads hR_
      have R47 := Lib.hid hR_
      have hc4_ := pw_cell_below B13.out X4.out
      have hf4_ := (B13.out.frozen (p := ⟨w.heap.size + 1, 0, none⟩) LT4.out).trans F4.out
      clear hR_ hB_ hg_ hat_ hc47_ hC47_
      refine hK.out _ _ (pw_cell_below B13.out X2.out) (fun hHeld => ?_)
      clear hK K
      refine norm_ (a' := ?_) ?_ ?_
      rotate_left
      · show Act.put _ (some 47) _ = _
        simp only [Act.put, List.setIfInBounds_toArray, List.set_cons_zero, List.set_cons_succ, i64_w, i32_w]
        rfl
      refine pure_ (i := 14) (N := some 48) (v := ?_) (a' := ?_) #[true, true, true, true, true, true, true, true, true, true, true, true, true, true, true, false] rfl rfl (by kernel_rfl) (fun _ _ _ h => h) (Or.inl ⟨by rfl, ?_⟩) ?_ ?_
      rotate_left
      · intro w'
        go_simp
        with_reducible rfl
      rotate_left
      · simp only [Act.put, List.setIfInBounds_toArray, List.set_cons_zero, List.set_cons_succ, i64_w, i32_w]
        rfl
      refine last_ (i := 15) (N := none) #[true, true, true, true, true, true, true, true, true, true, true, true, true, true, true, true] rfl rfl (by kernel_rfl) (by decide) (fun K hK => ?_)
      refine skip_ (w1 := ?_) (by rfl) rfl ?_ ?_
      rotate_left
      · go_simp
        rfl
      refine hK.out _ _ ?_
      clear hK K
      refine done_ (by kernel_rfl) ?_
      go_wp2_with fail
      all_goals
        refine bodyPost_ret (results_cell_row rfl _ _ (w.heap.size + 1) 30 #[.slice A47 r.length c47] (0, 0) _ rfl (blk_put0 (blk_below H4.out B13.out)) Tryd.underlying30 rfl (by kernel_rfl)) rfl ?_
        have hF_ := Kd.R_reads' (Kd.R_far (p := ⟨w.heap.size + 1, 0, none⟩) (Kd.R_types R47.out (blk_below H4.out B13.out) (by decide)) (fun _ hk => hk.2) (.slice A47 r.length c47))
        exact ⟨⟨A47, c47, rfl, hF_.2.2, hF_.2.1⟩, Below.setCell (below_step HB.out B13.out) (p := ⟨_, _, none⟩) (by simp) _⟩
end Go.Proofs.YtjcppnleoahaiaaDoor.P
