/- token: word. -/
import Derived.Test.YtjlcbhlpibgplaaDoorTokD
namespace Go.Proofs.YtjlcbhlpibgplaaDoor.P
open Go.RowKit Go.Proofs.YtjlcbhlpibgplaaDoorW.PrintWords Go.Proofs.YtjlcbhlpibgplaaDoorW.PrintLast Go.Proofs.YtjlcbhlpibgplaaDoorW.PrintMore
set_option linter.unusedVariables false
set_option linter.unusedSimpArgs false
theorem blk_new1 (X : World) (o o' : Obj) : ((X.alloc o).alloc o').heap[X.heap.size + 1]? = some o' := by
  have h := heap_alloc_new (X.alloc o) o'
  have e : (X.alloc o).heap.size = X.heap.size + 1 := by simp
  rwa [e] at h
theorem blk_far4 {X : World} {g k j : Nat} {o : Obj} {v : Value} (h : X.heap[k]? = some o) (hne : k ≠ g) : (X.setCell ⟨g, j, none⟩ v).heap[k]? = some o := (Below.heap_setCell X ⟨g, j, none⟩ v k hne).trans h
theorem cell_drew {w : World} {p : Addr} {v : Value} (h : w.cell? p = some v) : w.drew.cell? p = some v := h
theorem results_cell_tmp {P : Program} {fn : Func} {p q : Tmp} {ty : TypeId} (h : fn.results = #[.cell p ty, .tmp q]) (tmps : Array Value) (w : World) (g : Nat) (t : TypeId) (cs : Array Value) (fr : Nat × Nat) (d : TypeDesc)
    (hp : tmps.getD p undef = .pointer (some ⟨g, 0, none⟩)) (hg : w.heap[g]? = some (.cells cs t fr))
    (hu : P.underlying ty = some d) (hd : (match d with | .struct _ | .array _ _ => true | _ => false) = true) (hi : (P.info? ty).map (·.size) = some cs.size) :
    (results fn tmps).run P w = .ok (.tuple #[.agg cs, tmps.getD q undef]) w := by
  have hp' : tmps[p]?.getD undef = .pointer (some ⟨g, 0, none⟩) := by simpa using hp
  simp [results, h, hp', asAddr, run_loadVar_row w g t ty cs fr d hg hu hd hi]
/-- The number that a text is, written as Go writes it. -/
def numOf (s : ByteArray) : Option Int := match Lib.atoiAll s.data.toList with
  | .ok v => if Lib.itoa v = s.data.toList then some v else none
  | _ => none
def AtoiIs (s : ByteArray) (v : Int) (ev : Value) : Prop := (ev = .nilIface ∧ Lib.atoiAll s.data.toList = .ok v) ∨ (∃ p, ev = .iface 67 p ∧ numOf s = none)
theorem bytesW_below (w : World) (e : TypeId) (s : ByteArray) : Below w.heap.size w (Lib.bytesWorld w e s) := bytes_below (Below.refl _ _) e s
theorem toList_data (a : ByteArray) : a.toList = a.data.toList := by
  unfold ByteArray.toList
  have : ∀ n i r, a.size - i = n → ByteArray.toList.loop a i r = r.reverse ++ a.data.toList.drop i := by
    intro n
    induction n with
    | zero =>
      intro i r hi
      unfold ByteArray.toList.loop
      rw [if_neg (by omega), List.drop_eq_nil_of_le (by have : a.data.size = a.size := rfl; simp; omega)]
      simp
    | succ n ih =>
      intro i r hi
      unfold ByteArray.toList.loop
      have hs : a.data.size = a.size := rfl
      rw [if_pos (by omega), ih _ _ (by omega), List.drop_eq_getElem_cons (show i < a.data.toList.length by simp; omega)]
      simp [ByteArray.get!]
      rw [getElem!_pos a.data i (by omega)]
  rw [this _ 0 [] rfl]
  simp
theorem itoa_ne {v : Int} {s : ByteArray} (h : ¬ Lib.itoa v = s.data.toList) : (Lib.itoa v == s.toList) = false := by
  rw [toList_data]; simpa using h

theorem atoi_call (s : ByteArray) (hsz : s.size ≤ 1000000) (w : World) (hE : Env w) : Calls Tryd.prog 38 #[.string s] w fun e w' => ∃ (v : Int) (ev : Value), e = .returned (.tuple #[.int .i64 v, ev]) ∧ Hid (AtoiIs s v ev) ∧ Below w.heap.size w w' := by
  obtain ⟨_, ⟨e1, h1, k1⟩, ⟨e2, h2, k2⟩, _, _⟩ := hE
  rcases h : Lib.atoiAll s.data.toList with v | _ | _
  · exact (Tryd.strconv_Atoi_ok s (by omega) v h w).mono fun e w' ⟨he, hw⟩ => ⟨v, _, he, Lib.hid (.inl ⟨rfl, h⟩), by
      rcases hw with rfl | ⟨t, rfl⟩
      · exact Below.refl _ _
      · exact bytesW_below w 5 t⟩
  · exact (Any.strconv_Atoi_syntax Tryd.laysC172 s (by omega) h e1 w h1 k1).mono fun e w' ⟨N, he, _, _, hb⟩ => ⟨_, _, he, Lib.hid (.inr ⟨_, rfl, by simp [numOf, h]⟩), hb⟩
  · exact (Tryd.strconv_Atoi_range s (by omega) h e2 w h2 k2).mono fun e w' ⟨N, he, _, _, hb⟩ => ⟨_, _, he, Lib.hid (.inr ⟨_, rfl, by simp [numOf, h]⟩), hb⟩
theorem below_grow (w : World) (k : Nat) (os : Array Obj) : Below w.heap.size w (Sort.grow (w.drewN k) os) := ⟨rfl, rfl, rfl, (by show w.heap.size ≤ (w.heap ++ os).size; simp), fun b hb => (by show (w.heap ++ os)[b]? = w.heap[b]?; rw [Array.getElem?_append_left hb])⟩
theorem atoi_bound {l : List UInt8} {v : Int} (h : Lib.atoiAll l = .ok v) : -9223372036854775808 ≤ v ∧ v ≤ 9223372036854775807 := by
  unfold Lib.atoiAll at h
  split at h
  · cases h
  · simp only at h
    split at h
    · cases h
    · cases h
    · rename_i c r u hu
      split at h
      · cases h
      · split at h
        · cases h
        · rename_i h1 h2
          injection h with h
          subst h
          split
          · rename_i h3; simp only [h3, true_and, not_true, false_and] at h1 h2; omega
          · rename_i h3; simp only [h3, false_and, not_false_iff, true_and] at h1 h2; omega
/-- What a word is: its kind (0: none) and its number. -/
def wordK (s : ByteArray) : Int := if keptB s = true then 4 else if identB s = true then 1 else if (numOf s).isSome then 2 else 0
def wordV (s : ByteArray) : Int := if keptB s = true then 0 else if identB s = true then 0 else (numOf s).getD 0
set_option maxRecDepth 100000 in
set_option maxHeartbeats 8000000 in
theorem word_is (s : ByteArray) (at_ : Int) (hsz : s.size ≤ 1000000) (w : World) (hE : Env w) :
    Calls Tryd.prog 25 #[.string s, .int .i64 at_] w fun e w' => e = .returned (.tuple #[.agg #[.int .i64 (wordK s), .int .i64 (wordV s), .int .i64 at_, .string s], .bool (wordK s != 0)]) ∧ Below w.heap.size w w' := by
  have HE := Lib.hid hE
  clear hE
  go_enter Tryd.func25, Tryd.ntmps25
  go_wp2_with fail
  refine (atoi_call s hsz _ (HE.out.below (below_alloc (below_alloc (Below.refl _ _) _) _) HE.out.six)).mono ?_
  rintro e_ w3 ⟨v, ev, rfl, HA, hb_⟩
  have K4 : Hid (w3.heap[w.heap.size]? = some (.cells #[.int .i64 0, .int .i64 0, .int .i64 0, .string ⟨#[]⟩] 30 (0, 0))) := Lib.hid (blk_below (blk_alloc (heap_alloc_new w _) _) hb_)
  have K6 : Hid (w3.heap[w.heap.size + 1]? = some (.cells #[.int .i64 0, .int .i64 0, .int .i64 at_, .string s] 30 (0, 0))) := Lib.hid (blk_below (blk_new1 w _ _) hb_)
  have HB : Hid (Below w.heap.size w w3) := Lib.hid (below_step (below_alloc (below_alloc (Below.refl _ _) _) _) hb_)
  clear hb_
  cases hk : keptB s with
  | true =>
    have HF : Hid (wordK s = 4 ∧ wordV s = 0) := Lib.hid ⟨by simp [wordK, hk], by simp [wordV, hk]⟩
    have HK := Lib.hid hk
    clear hk
    go_wp2_with fail
    refine (kept_is s true HK.out hsz _ (HE.out.below HB.out HE.out.six)).mono ?_
    rintro e_ w1 ⟨rfl, rfl⟩
    have c6 : w3.cell? ⟨w.heap.size + 1, 0, none⟩ = some (.int .i64 0) := (blk_cell K6.out 0).trans rfl
    have f6 := blk_frozen K6.out 0
    go_wp2_with fail
    clear c6 f6
    obtain ⟨w9, hw9⟩ : ∃ W_, W_ = w3.setCell ⟨w.heap.size + 1, 0, none⟩ (.int .i64 4) := ⟨_, rfl⟩
    rw [← hw9]
    have n6 : Hid (w9.heap[w.heap.size + 1]? = some (.cells #[.int .i64 4, .int .i64 0, .int .i64 at_, .string s] 30 (0, 0))) := Lib.hid (by rw [hw9]; exact blk_put (K6.out) 0 _ rfl)
    have n4 : Hid (w9.heap[w.heap.size]? = some (.cells #[.int .i64 0, .int .i64 0, .int .i64 0, .string ⟨#[]⟩] 30 (0, 0))) := Lib.hid (by rw [hw9]; exact blk_far4 (K4.out) (by omega))
    have nB : Hid (Below w.heap.size w w9) := Lib.hid (by rw [hw9]; exact Below.setCell (HB.out) (p := ⟨w.heap.size + 1, 0, none⟩) (by show w.heap.size ≤ w.heap.size + 1; omega) _)
    clear K6 K4 HB hw9
    have K6 := n6
    have K4 := n4
    have HB := nB
    clear n6 n4 nB
    have c6_0 : w9.cell? ⟨w.heap.size + 1, 0, none⟩ = some (.int .i64 4) := (blk_cell K6.out 0).trans rfl
    have c6_1 : w9.cell? ⟨w.heap.size + 1, 1, none⟩ = some (.int .i64 0) := (blk_cell K6.out 1).trans rfl
    have c6_2 : w9.cell? ⟨w.heap.size + 1, 2, none⟩ = some (.int .i64 at_) := (blk_cell K6.out 2).trans rfl
    have c6_3 : w9.cell? ⟨w.heap.size + 1, 3, none⟩ = some (.string s) := (blk_cell K6.out 3).trans rfl
    have c4_0 : w9.cell? ⟨w.heap.size, 0, none⟩ = some (.int .i64 0) := (blk_cell K4.out 0).trans rfl
    have f4_0 := blk_frozen K4.out 0
    have c4_1 : w9.cell? ⟨w.heap.size, 1, none⟩ = some (.int .i64 0) := (blk_cell K4.out 1).trans rfl
    have f4_1 := blk_frozen K4.out 1
    have c4_2 : w9.cell? ⟨w.heap.size, 2, none⟩ = some (.int .i64 0) := (blk_cell K4.out 2).trans rfl
    have f4_2 := blk_frozen K4.out 2
    have c4_3 : w9.cell? ⟨w.heap.size, 3, none⟩ = some (.string ⟨#[]⟩) := (blk_cell K4.out 3).trans rfl
    have f4_3 := blk_frozen K4.out 3
    refine start_ (n := 6) (S := fun w' => w'.cell? ⟨w.heap.size + 1, 0, none⟩ = some (.int .i64 4) ∧ w'.cell? ⟨w.heap.size + 1, 1, none⟩ = some (.int .i64 0) ∧ w'.cell? ⟨w.heap.size + 1, 2, none⟩ = some (.int .i64 at_) ∧ w'.cell? ⟨w.heap.size + 1, 3, none⟩ = some (.string s)) (ds := []) #[false, false, false, false, false, false] (by kernel_rfl) rfl rfl ⟨cell_drew c6_0, cell_drew c6_1, cell_drew c6_2, cell_drew c6_3⟩ (fun hHeld => ?_)
    refine pure_ (i := 1) (N := some 38) (v := ?_) (a' := ?_) #[false, true, false, false, false, false] rfl rfl (by kernel_rfl) (fun _ _ _ h => h) (Or.inl ⟨by rfl, ?_⟩) ?_ ?_
    rotate_left
    · intro w'
      go_simp
      with_reducible rfl
    rotate_left
    · simp only [Act.put, List.setIfInBounds_toArray, List.set_cons_zero, List.set_cons_succ, i64_w, i32_w]
      rfl
    refine take_ (i := 0) (N := some 37) (v := ?_) (a' := ?_) #[true, true, false, false, false, false] rfl rfl (by kernel_rfl) (fun _ _ _ h => h) (Or.inl ⟨by rfl, ?_⟩) hHeld ?_ ?_
    rotate_left
    · rintro w' ⟨s0, s1, s2, s3⟩
      go_simp
      with_reducible rfl
    rotate_left
    · simp only [Act.put, List.setIfInBounds_toArray, List.set_cons_zero, List.set_cons_succ, i64_w, i32_w]
      rfl
    refine take_ (i := 2) (N := some 39) (v := ?_) (a' := ?_) #[true, true, true, false, false, false] rfl rfl (by kernel_rfl) (fun _ _ _ h => h) (Or.inl ⟨by rfl, ?_⟩) hHeld ?_ ?_
    rotate_left
    · rintro w' ⟨s0, s1, s2, s3⟩
      go_simp
      with_reducible rfl
    rotate_left
    · simp only [Act.put, List.setIfInBounds_toArray, List.set_cons_zero, List.set_cons_succ, i64_w, i32_w]
      rfl
    refine pure_ (i := 3) (N := some 40) (v := ?_) (a' := ?_) #[true, true, true, true, false, false] rfl rfl (by kernel_rfl) (fun _ _ _ h => h) (Or.inl ⟨by rfl, ?_⟩) ?_ ?_
    rotate_left
    · intro w'
      go_simp
      with_reducible rfl
    rotate_left
    · simp only [Act.put, List.setIfInBounds_toArray, List.set_cons_zero, List.set_cons_succ, i64_w, i32_w]
      rfl
    refine one_ (i := 4) (N := none) #[true, true, true, true, true, false] rfl rfl (by kernel_rfl) (by decide) (fun K hK => ?_)
    refine skip_ (w1 := ?_) (by rfl) rfl ?_ ?_
    rotate_left
    · go_simp
      rfl
    refine hK.out _ _ ⟨(by go_simp), (by go_simp), (by go_simp), (by go_simp)⟩ (fun hHeld => ?_)
    clear hK K
    refine pure_ (i := 5) (N := some 5) (v := ?_) (a' := ?_) #[true, true, true, true, true, true] rfl rfl (by kernel_rfl) (fun _ _ _ h => h) (Or.inl ⟨by rfl, ?_⟩) ?_ ?_
    rotate_left
    · intro w'
      go_simp
      with_reducible rfl
    rotate_left
    · simp only [Act.put, List.setIfInBounds_toArray, List.set_cons_zero, List.set_cons_succ, i64_w, i32_w]
      rfl
    refine done_ (by kernel_rfl) ?_
    go_wp2_with fail
    refine bodyPost_ret (results_cell_tmp rfl _ _ (w.heap.size) 30 #[.int .i64 4, .int .i64 0, .int .i64 at_, .string s] (0, 0) _ rfl (blk_drew (blk_put (blk_put (blk_put (blk_put K4.out 0 _ rfl) 1 _ rfl) 2 _ rfl) 3 _ rfl)) Tryd.underlying30 rfl (by kernel_rfl)) rfl ?_
    refine ⟨by rw [HF.out.1, HF.out.2]; rfl, ?_⟩
    exact below_drew (Below.setCell (Below.setCell (Below.setCell (Below.setCell HB.out (p := ⟨_, _, none⟩) (Nat.le_refl _) _) (p := ⟨_, _, none⟩) (Nat.le_refl _) _) (p := ⟨_, _, none⟩) (Nat.le_refl _) _) (p := ⟨_, _, none⟩) (Nat.le_refl _) _)
  | false =>
    have HK := Lib.hid hk
    cases hi : identB s with
    | true =>
      have HF : Hid (wordK s = 1 ∧ wordV s = 0) := Lib.hid ⟨by simp [wordK, hk, hi], by simp [wordV, hk, hi]⟩
      have HI := Lib.hid hi
      clear hk hi
      go_wp2_with fail
      refine (kept_is s false HK.out hsz _ (HE.out.below HB.out HE.out.six)).mono ?_
      rintro e_ w1 ⟨rfl, rfl⟩
      go_wp2_with fail
      refine (ident_is s true HI.out hsz _ (HE.out.below HB.out HE.out.six)).mono ?_
      rintro e_ w5 ⟨rfl, hb_⟩
      have n6 := Lib.hid (blk_below K6.out hb_)
      have n4 := Lib.hid (blk_below K4.out hb_)
      have nB := Lib.hid (below_step HB.out hb_)
      clear K6 K4 HB hb_
      have K6 := n6
      have K4 := n4
      have HB := nB
      clear n6 n4 nB
      have c6 : w5.cell? ⟨w.heap.size + 1, 0, none⟩ = some (.int .i64 0) := (blk_cell K6.out 0).trans rfl
      have f6 := blk_frozen K6.out 0
      go_wp2_with fail
      clear c6 f6
      obtain ⟨w9, hw9⟩ : ∃ W_, W_ = w5.setCell ⟨w.heap.size + 1, 0, none⟩ (.int .i64 1) := ⟨_, rfl⟩
      rw [← hw9]
      have n6 : Hid (w9.heap[w.heap.size + 1]? = some (.cells #[.int .i64 1, .int .i64 0, .int .i64 at_, .string s] 30 (0, 0))) := Lib.hid (by rw [hw9]; exact blk_put (K6.out) 0 _ rfl)
      have n4 : Hid (w9.heap[w.heap.size]? = some (.cells #[.int .i64 0, .int .i64 0, .int .i64 0, .string ⟨#[]⟩] 30 (0, 0))) := Lib.hid (by rw [hw9]; exact blk_far4 (K4.out) (by omega))
      have nB : Hid (Below w.heap.size w w9) := Lib.hid (by rw [hw9]; exact Below.setCell (HB.out) (p := ⟨w.heap.size + 1, 0, none⟩) (by show w.heap.size ≤ w.heap.size + 1; omega) _)
      clear K6 K4 HB hw9
      have K6 := n6
      have K4 := n4
      have HB := nB
      clear n6 n4 nB
      have c6_0 : w9.cell? ⟨w.heap.size + 1, 0, none⟩ = some (.int .i64 1) := (blk_cell K6.out 0).trans rfl
      have c6_1 : w9.cell? ⟨w.heap.size + 1, 1, none⟩ = some (.int .i64 0) := (blk_cell K6.out 1).trans rfl
      have c6_2 : w9.cell? ⟨w.heap.size + 1, 2, none⟩ = some (.int .i64 at_) := (blk_cell K6.out 2).trans rfl
      have c6_3 : w9.cell? ⟨w.heap.size + 1, 3, none⟩ = some (.string s) := (blk_cell K6.out 3).trans rfl
      have c4_0 : w9.cell? ⟨w.heap.size, 0, none⟩ = some (.int .i64 0) := (blk_cell K4.out 0).trans rfl
      have f4_0 := blk_frozen K4.out 0
      have c4_1 : w9.cell? ⟨w.heap.size, 1, none⟩ = some (.int .i64 0) := (blk_cell K4.out 1).trans rfl
      have f4_1 := blk_frozen K4.out 1
      have c4_2 : w9.cell? ⟨w.heap.size, 2, none⟩ = some (.int .i64 0) := (blk_cell K4.out 2).trans rfl
      have f4_2 := blk_frozen K4.out 2
      have c4_3 : w9.cell? ⟨w.heap.size, 3, none⟩ = some (.string ⟨#[]⟩) := (blk_cell K4.out 3).trans rfl
      have f4_3 := blk_frozen K4.out 3
      refine start_ (n := 6) (S := fun w' => w'.cell? ⟨w.heap.size + 1, 0, none⟩ = some (.int .i64 1) ∧ w'.cell? ⟨w.heap.size + 1, 1, none⟩ = some (.int .i64 0) ∧ w'.cell? ⟨w.heap.size + 1, 2, none⟩ = some (.int .i64 at_) ∧ w'.cell? ⟨w.heap.size + 1, 3, none⟩ = some (.string s)) (ds := []) #[false, false, false, false, false, false] (by kernel_rfl) rfl rfl ⟨cell_drew c6_0, cell_drew c6_1, cell_drew c6_2, cell_drew c6_3⟩ (fun hHeld => ?_)
      refine pure_ (i := 1) (N := some 38) (v := ?_) (a' := ?_) #[false, true, false, false, false, false] rfl rfl (by kernel_rfl) (fun _ _ _ h => h) (Or.inl ⟨by rfl, ?_⟩) ?_ ?_
      rotate_left
      · intro w'
        go_simp
        with_reducible rfl
      rotate_left
      · simp only [Act.put, List.setIfInBounds_toArray, List.set_cons_zero, List.set_cons_succ, i64_w, i32_w]
        rfl
      refine take_ (i := 0) (N := some 37) (v := ?_) (a' := ?_) #[true, true, false, false, false, false] rfl rfl (by kernel_rfl) (fun _ _ _ h => h) (Or.inl ⟨by rfl, ?_⟩) hHeld ?_ ?_
      rotate_left
      · rintro w' ⟨s0, s1, s2, s3⟩
        go_simp
        with_reducible rfl
      rotate_left
      · simp only [Act.put, List.setIfInBounds_toArray, List.set_cons_zero, List.set_cons_succ, i64_w, i32_w]
        rfl
      refine take_ (i := 2) (N := some 39) (v := ?_) (a' := ?_) #[true, true, true, false, false, false] rfl rfl (by kernel_rfl) (fun _ _ _ h => h) (Or.inl ⟨by rfl, ?_⟩) hHeld ?_ ?_
      rotate_left
      · rintro w' ⟨s0, s1, s2, s3⟩
        go_simp
        with_reducible rfl
      rotate_left
      · simp only [Act.put, List.setIfInBounds_toArray, List.set_cons_zero, List.set_cons_succ, i64_w, i32_w]
        rfl
      refine pure_ (i := 3) (N := some 40) (v := ?_) (a' := ?_) #[true, true, true, true, false, false] rfl rfl (by kernel_rfl) (fun _ _ _ h => h) (Or.inl ⟨by rfl, ?_⟩) ?_ ?_
      rotate_left
      · intro w'
        go_simp
        with_reducible rfl
      rotate_left
      · simp only [Act.put, List.setIfInBounds_toArray, List.set_cons_zero, List.set_cons_succ, i64_w, i32_w]
        rfl
      refine one_ (i := 4) (N := none) #[true, true, true, true, true, false] rfl rfl (by kernel_rfl) (by decide) (fun K hK => ?_)
      refine skip_ (w1 := ?_) (by rfl) rfl ?_ ?_
      rotate_left
      · go_simp
        rfl
      refine hK.out _ _ ⟨(by go_simp), (by go_simp), (by go_simp), (by go_simp)⟩ (fun hHeld => ?_)
      clear hK K
      refine pure_ (i := 5) (N := some 5) (v := ?_) (a' := ?_) #[true, true, true, true, true, true] rfl rfl (by kernel_rfl) (fun _ _ _ h => h) (Or.inl ⟨by rfl, ?_⟩) ?_ ?_
      rotate_left
      · intro w'
        go_simp
        with_reducible rfl
      rotate_left
      · simp only [Act.put, List.setIfInBounds_toArray, List.set_cons_zero, List.set_cons_succ, i64_w, i32_w]
        rfl
      refine done_ (by kernel_rfl) ?_
      go_wp2_with fail
      refine bodyPost_ret (results_cell_tmp rfl _ _ (w.heap.size) 30 #[.int .i64 1, .int .i64 0, .int .i64 at_, .string s] (0, 0) _ rfl (blk_drew (blk_put (blk_put (blk_put (blk_put K4.out 0 _ rfl) 1 _ rfl) 2 _ rfl) 3 _ rfl)) Tryd.underlying30 rfl (by kernel_rfl)) rfl ?_
      refine ⟨by rw [HF.out.1, HF.out.2]; rfl, ?_⟩
      exact below_drew (Below.setCell (Below.setCell (Below.setCell (Below.setCell HB.out (p := ⟨_, _, none⟩) (Nat.le_refl _) _) (p := ⟨_, _, none⟩) (Nat.le_refl _) _) (p := ⟨_, _, none⟩) (Nat.le_refl _) _) (p := ⟨_, _, none⟩) (Nat.le_refl _) _)
    | false =>
      have HI := Lib.hid hi
      have hwk : wordK s = if (numOf s).isSome then 2 else 0 := by simp [wordK, hk, hi]
      have hwv : wordV s = (numOf s).getD 0 := by simp [wordV, hk, hi]
      have HWK := Lib.hid hwk
      have HWV := Lib.hid hwv
      clear hk hi hwk hwv
      go_wp2_with fail
      refine (kept_is s false HK.out hsz _ (HE.out.below HB.out HE.out.six)).mono ?_
      rintro e_ w1 ⟨rfl, rfl⟩
      go_wp2_with fail
      refine (ident_is s false HI.out hsz _ (HE.out.below HB.out HE.out.six)).mono ?_
      rintro e_ w5 ⟨rfl, hb_⟩
      have n6 := Lib.hid (blk_below K6.out hb_)
      have n4 := Lib.hid (blk_below K4.out hb_)
      have nB := Lib.hid (below_step HB.out hb_)
      clear K6 K4 HB hb_
      have K6 := n6
      have K4 := n4
      have HB := nB
      clear n6 n4 nB
      rcases HA.out with ⟨rfl, hok⟩ | ⟨p, rfl, hno⟩
      · have hvb := atoi_bound hok
        have HOK := Lib.hid hok
        clear hok
        go_wp2_with fail
        refine (Tryd.strconv_Itoa v hvb.1 hvb.2 _ (HE.out.below HB.out HE.out.six).2.2.2.1).mono ?_
        rintro e_ w7 ⟨rfl, hgr⟩
        have hb_ : Below w5.heap.size w5 w7 := by obtain ⟨k_, os_, rfl⟩ := hgr; exact below_grow w5 k_ os_
        clear hgr
        have n6 := Lib.hid (blk_below K6.out hb_)
        have n4 := Lib.hid (blk_below K4.out hb_)
        have nB := Lib.hid (below_step HB.out hb_)
        clear K6 K4 HB hb_
        have K6 := n6
        have K4 := n4
        have HB := nB
        clear n6 n4 nB
        have hnum : numOf s = if Lib.itoa v = s.data.toList then some v else none := by simp [numOf, HOK.out]
        by_cases he : Lib.itoa v = s.data.toList
        · have HF : Hid (wordK s = 2 ∧ wordV s = v) := Lib.hid ⟨by rw [HWK.out, hnum, if_pos he]; rfl, by rw [HWV.out, hnum, if_pos he]; rfl⟩
          have hes : (⟨(Lib.itoa v).toArray⟩ : ByteArray) = s := by rw [he]
          have HES := Lib.hid hes
          clear he hes hnum
          have c6 : w7.cell? ⟨w.heap.size + 1, 0, none⟩ = some (.int .i64 0) := (blk_cell K6.out 0).trans rfl
          have c61 : w7.cell? ⟨w.heap.size + 1, 1, none⟩ = some (.int .i64 0) := (blk_cell K6.out 1).trans rfl
          have f6 := blk_frozen K6.out 0
          have f61 := blk_frozen K6.out 1
          rw [HES.out]
          go_wp2_with fail
          clear c6 f6 c61 f61
          obtain ⟨w9, hw9⟩ : ∃ W_, W_ = (w7.setCell ⟨w.heap.size + 1, 0, none⟩ (.int .i64 2)).setCell ⟨w.heap.size + 1, 1, none⟩ (.int .i64 v) := ⟨_, rfl⟩
          rw [← hw9]
          have n6 : Hid (w9.heap[w.heap.size + 1]? = some (.cells #[.int .i64 2, .int .i64 v, .int .i64 at_, .string s] 30 (0, 0))) := Lib.hid (by rw [hw9]; exact blk_put (blk_put (K6.out) 0 _ rfl) 1 _ rfl)
          have n4 : Hid (w9.heap[w.heap.size]? = some (.cells #[.int .i64 0, .int .i64 0, .int .i64 0, .string ⟨#[]⟩] 30 (0, 0))) := Lib.hid (by rw [hw9]; exact blk_far4 (blk_far4 (K4.out) (by omega)) (by omega))
          have nB : Hid (Below w.heap.size w w9) := Lib.hid (by rw [hw9]; exact Below.setCell (Below.setCell (HB.out) (p := ⟨w.heap.size + 1, 0, none⟩) (by show w.heap.size ≤ w.heap.size + 1; omega) _) (p := ⟨w.heap.size + 1, 1, none⟩) (by show w.heap.size ≤ w.heap.size + 1; omega) _)
          clear K6 K4 HB hw9
          have K6 := n6
          have K4 := n4
          have HB := nB
          clear n6 n4 nB
          have c6_0 : w9.cell? ⟨w.heap.size + 1, 0, none⟩ = some (.int .i64 2) := (blk_cell K6.out 0).trans rfl
          have c6_1 : w9.cell? ⟨w.heap.size + 1, 1, none⟩ = some (.int .i64 v) := (blk_cell K6.out 1).trans rfl
          have c6_2 : w9.cell? ⟨w.heap.size + 1, 2, none⟩ = some (.int .i64 at_) := (blk_cell K6.out 2).trans rfl
          have c6_3 : w9.cell? ⟨w.heap.size + 1, 3, none⟩ = some (.string s) := (blk_cell K6.out 3).trans rfl
          have c4_0 : w9.cell? ⟨w.heap.size, 0, none⟩ = some (.int .i64 0) := (blk_cell K4.out 0).trans rfl
          have f4_0 := blk_frozen K4.out 0
          have c4_1 : w9.cell? ⟨w.heap.size, 1, none⟩ = some (.int .i64 0) := (blk_cell K4.out 1).trans rfl
          have f4_1 := blk_frozen K4.out 1
          have c4_2 : w9.cell? ⟨w.heap.size, 2, none⟩ = some (.int .i64 0) := (blk_cell K4.out 2).trans rfl
          have f4_2 := blk_frozen K4.out 2
          have c4_3 : w9.cell? ⟨w.heap.size, 3, none⟩ = some (.string ⟨#[]⟩) := (blk_cell K4.out 3).trans rfl
          have f4_3 := blk_frozen K4.out 3
          refine start_ (n := 6) (S := fun w' => w'.cell? ⟨w.heap.size + 1, 0, none⟩ = some (.int .i64 2) ∧ w'.cell? ⟨w.heap.size + 1, 1, none⟩ = some (.int .i64 v) ∧ w'.cell? ⟨w.heap.size + 1, 2, none⟩ = some (.int .i64 at_) ∧ w'.cell? ⟨w.heap.size + 1, 3, none⟩ = some (.string s)) (ds := []) #[false, false, false, false, false, false] (by kernel_rfl) rfl rfl ⟨cell_drew c6_0, cell_drew c6_1, cell_drew c6_2, cell_drew c6_3⟩ (fun hHeld => ?_)
          refine pure_ (i := 1) (N := some 38) (v := ?_) (a' := ?_) #[false, true, false, false, false, false] rfl rfl (by kernel_rfl) (fun _ _ _ h => h) (Or.inl ⟨by rfl, ?_⟩) ?_ ?_
          rotate_left
          · intro w'
            go_simp
            with_reducible rfl
          rotate_left
          · simp only [Act.put, List.setIfInBounds_toArray, List.set_cons_zero, List.set_cons_succ, i64_w, i32_w]
            rfl
          refine take_ (i := 0) (N := some 37) (v := ?_) (a' := ?_) #[true, true, false, false, false, false] rfl rfl (by kernel_rfl) (fun _ _ _ h => h) (Or.inl ⟨by rfl, ?_⟩) hHeld ?_ ?_
          rotate_left
          · rintro w' ⟨s0, s1, s2, s3⟩
            go_simp
            with_reducible rfl
          rotate_left
          · simp only [Act.put, List.setIfInBounds_toArray, List.set_cons_zero, List.set_cons_succ, i64_w, i32_w]
            rfl
          refine take_ (i := 2) (N := some 39) (v := ?_) (a' := ?_) #[true, true, true, false, false, false] rfl rfl (by kernel_rfl) (fun _ _ _ h => h) (Or.inl ⟨by rfl, ?_⟩) hHeld ?_ ?_
          rotate_left
          · rintro w' ⟨s0, s1, s2, s3⟩
            go_simp
            with_reducible rfl
          rotate_left
          · simp only [Act.put, List.setIfInBounds_toArray, List.set_cons_zero, List.set_cons_succ, i64_w, i32_w]
            rfl
          refine pure_ (i := 3) (N := some 40) (v := ?_) (a' := ?_) #[true, true, true, true, false, false] rfl rfl (by kernel_rfl) (fun _ _ _ h => h) (Or.inl ⟨by rfl, ?_⟩) ?_ ?_
          rotate_left
          · intro w'
            go_simp
            with_reducible rfl
          rotate_left
          · simp only [Act.put, List.setIfInBounds_toArray, List.set_cons_zero, List.set_cons_succ, i64_w, i32_w]
            rfl
          refine one_ (i := 4) (N := none) #[true, true, true, true, true, false] rfl rfl (by kernel_rfl) (by decide) (fun K hK => ?_)
          refine skip_ (w1 := ?_) (by rfl) rfl ?_ ?_
          rotate_left
          · go_simp
            rfl
          refine hK.out _ _ ⟨(by go_simp), (by go_simp), (by go_simp), (by go_simp)⟩ (fun hHeld => ?_)
          clear hK K
          refine pure_ (i := 5) (N := some 5) (v := ?_) (a' := ?_) #[true, true, true, true, true, true] rfl rfl (by kernel_rfl) (fun _ _ _ h => h) (Or.inl ⟨by rfl, ?_⟩) ?_ ?_
          rotate_left
          · intro w'
            go_simp
            with_reducible rfl
          rotate_left
          · simp only [Act.put, List.setIfInBounds_toArray, List.set_cons_zero, List.set_cons_succ, i64_w, i32_w]
            rfl
          refine done_ (by kernel_rfl) ?_
          go_wp2_with fail
          refine bodyPost_ret (results_cell_tmp rfl _ _ (w.heap.size) 30 #[.int .i64 2, .int .i64 v, .int .i64 at_, .string s] (0, 0) _ rfl (blk_drew (blk_put (blk_put (blk_put (blk_put K4.out 0 _ rfl) 1 _ rfl) 2 _ rfl) 3 _ rfl)) Tryd.underlying30 rfl (by kernel_rfl)) rfl ?_
          refine ⟨by rw [HF.out.1, HF.out.2]; rfl, ?_⟩
          exact below_drew (Below.setCell (Below.setCell (Below.setCell (Below.setCell HB.out (p := ⟨_, _, none⟩) (Nat.le_refl _) _) (p := ⟨_, _, none⟩) (Nat.le_refl _) _) (p := ⟨_, _, none⟩) (Nat.le_refl _) _) (p := ⟨_, _, none⟩) (Nat.le_refl _) _)
        · have HF : Hid (wordK s = 0 ∧ wordV s = 0) := Lib.hid ⟨by rw [HWK.out, hnum, if_neg he]; rfl, by rw [HWV.out, hnum, if_neg he]; rfl⟩
          have hes : (Lib.itoa v == s.toList) = false := itoa_ne he
          clear he hnum
          go_wp2_with fail
          have c6_0 : w7.cell? ⟨w.heap.size + 1, 0, none⟩ = some (.int .i64 0) := (blk_cell K6.out 0).trans rfl
          have c6_1 : w7.cell? ⟨w.heap.size + 1, 1, none⟩ = some (.int .i64 0) := (blk_cell K6.out 1).trans rfl
          have c6_2 : w7.cell? ⟨w.heap.size + 1, 2, none⟩ = some (.int .i64 at_) := (blk_cell K6.out 2).trans rfl
          have c6_3 : w7.cell? ⟨w.heap.size + 1, 3, none⟩ = some (.string s) := (blk_cell K6.out 3).trans rfl
          have c4_0 : w7.cell? ⟨w.heap.size, 0, none⟩ = some (.int .i64 0) := (blk_cell K4.out 0).trans rfl
          have f4_0 := blk_frozen K4.out 0
          have c4_1 : w7.cell? ⟨w.heap.size, 1, none⟩ = some (.int .i64 0) := (blk_cell K4.out 1).trans rfl
          have f4_1 := blk_frozen K4.out 1
          have c4_2 : w7.cell? ⟨w.heap.size, 2, none⟩ = some (.int .i64 0) := (blk_cell K4.out 2).trans rfl
          have f4_2 := blk_frozen K4.out 2
          have c4_3 : w7.cell? ⟨w.heap.size, 3, none⟩ = some (.string ⟨#[]⟩) := (blk_cell K4.out 3).trans rfl
          have f4_3 := blk_frozen K4.out 3
          refine start_ (n := 6) (S := fun w' => w'.cell? ⟨w.heap.size + 1, 0, none⟩ = some (.int .i64 0) ∧ w'.cell? ⟨w.heap.size + 1, 1, none⟩ = some (.int .i64 0) ∧ w'.cell? ⟨w.heap.size + 1, 2, none⟩ = some (.int .i64 at_) ∧ w'.cell? ⟨w.heap.size + 1, 3, none⟩ = some (.string s)) (ds := []) #[false, false, false, false, false, false] (by kernel_rfl) rfl rfl ⟨cell_drew c6_0, cell_drew c6_1, cell_drew c6_2, cell_drew c6_3⟩ (fun hHeld => ?_)
          refine pure_ (i := 1) (N := some 38) (v := ?_) (a' := ?_) #[false, true, false, false, false, false] rfl rfl (by kernel_rfl) (fun _ _ _ h => h) (Or.inl ⟨by rfl, ?_⟩) ?_ ?_
          rotate_left
          · intro w'
            go_simp
            with_reducible rfl
          rotate_left
          · simp only [Act.put, List.setIfInBounds_toArray, List.set_cons_zero, List.set_cons_succ, i64_w, i32_w]
            rfl
          refine take_ (i := 0) (N := some 37) (v := ?_) (a' := ?_) #[true, true, false, false, false, false] rfl rfl (by kernel_rfl) (fun _ _ _ h => h) (Or.inl ⟨by rfl, ?_⟩) hHeld ?_ ?_
          rotate_left
          · rintro w' ⟨s0, s1, s2, s3⟩
            go_simp
            with_reducible rfl
          rotate_left
          · simp only [Act.put, List.setIfInBounds_toArray, List.set_cons_zero, List.set_cons_succ, i64_w, i32_w]
            rfl
          refine take_ (i := 2) (N := some 39) (v := ?_) (a' := ?_) #[true, true, true, false, false, false] rfl rfl (by kernel_rfl) (fun _ _ _ h => h) (Or.inl ⟨by rfl, ?_⟩) hHeld ?_ ?_
          rotate_left
          · rintro w' ⟨s0, s1, s2, s3⟩
            go_simp
            with_reducible rfl
          rotate_left
          · simp only [Act.put, List.setIfInBounds_toArray, List.set_cons_zero, List.set_cons_succ, i64_w, i32_w]
            rfl
          refine pure_ (i := 3) (N := some 40) (v := ?_) (a' := ?_) #[true, true, true, true, false, false] rfl rfl (by kernel_rfl) (fun _ _ _ h => h) (Or.inl ⟨by rfl, ?_⟩) ?_ ?_
          rotate_left
          · intro w'
            go_simp
            with_reducible rfl
          rotate_left
          · simp only [Act.put, List.setIfInBounds_toArray, List.set_cons_zero, List.set_cons_succ, i64_w, i32_w]
            rfl
          refine one_ (i := 4) (N := none) #[true, true, true, true, true, false] rfl rfl (by kernel_rfl) (by decide) (fun K hK => ?_)
          refine skip_ (w1 := ?_) (by rfl) rfl ?_ ?_
          rotate_left
          · go_simp
            rfl
          refine hK.out _ _ ⟨(by go_simp), (by go_simp), (by go_simp), (by go_simp)⟩ (fun hHeld => ?_)
          clear hK K
          refine pure_ (i := 5) (N := some 5) (v := ?_) (a' := ?_) #[true, true, true, true, true, true] rfl rfl (by kernel_rfl) (fun _ _ _ h => h) (Or.inl ⟨by rfl, ?_⟩) ?_ ?_
          rotate_left
          · intro w'
            go_simp
            with_reducible rfl
          rotate_left
          · simp only [Act.put, List.setIfInBounds_toArray, List.set_cons_zero, List.set_cons_succ, i64_w, i32_w]
            rfl
          refine done_ (by kernel_rfl) ?_
          go_wp2_with fail
          refine bodyPost_ret (results_cell_tmp rfl _ _ (w.heap.size) 30 #[.int .i64 0, .int .i64 0, .int .i64 at_, .string s] (0, 0) _ rfl (blk_drew (blk_put (blk_put (blk_put (blk_put K4.out 0 _ rfl) 1 _ rfl) 2 _ rfl) 3 _ rfl)) Tryd.underlying30 rfl (by kernel_rfl)) rfl ?_
          refine ⟨by rw [HF.out.1, HF.out.2]; rfl, ?_⟩
          exact below_drew (Below.setCell (Below.setCell (Below.setCell (Below.setCell HB.out (p := ⟨_, _, none⟩) (Nat.le_refl _) _) (p := ⟨_, _, none⟩) (Nat.le_refl _) _) (p := ⟨_, _, none⟩) (Nat.le_refl _) _) (p := ⟨_, _, none⟩) (Nat.le_refl _) _)
      · have HF : Hid (wordK s = 0 ∧ wordV s = 0) := Lib.hid ⟨by rw [HWK.out, hno]; rfl, by rw [HWV.out, hno]; rfl⟩
        clear hno
        go_wp2_with fail
        have c6_0 : w5.cell? ⟨w.heap.size + 1, 0, none⟩ = some (.int .i64 0) := (blk_cell K6.out 0).trans rfl
        have c6_1 : w5.cell? ⟨w.heap.size + 1, 1, none⟩ = some (.int .i64 0) := (blk_cell K6.out 1).trans rfl
        have c6_2 : w5.cell? ⟨w.heap.size + 1, 2, none⟩ = some (.int .i64 at_) := (blk_cell K6.out 2).trans rfl
        have c6_3 : w5.cell? ⟨w.heap.size + 1, 3, none⟩ = some (.string s) := (blk_cell K6.out 3).trans rfl
        have c4_0 : w5.cell? ⟨w.heap.size, 0, none⟩ = some (.int .i64 0) := (blk_cell K4.out 0).trans rfl
        have f4_0 := blk_frozen K4.out 0
        have c4_1 : w5.cell? ⟨w.heap.size, 1, none⟩ = some (.int .i64 0) := (blk_cell K4.out 1).trans rfl
        have f4_1 := blk_frozen K4.out 1
        have c4_2 : w5.cell? ⟨w.heap.size, 2, none⟩ = some (.int .i64 0) := (blk_cell K4.out 2).trans rfl
        have f4_2 := blk_frozen K4.out 2
        have c4_3 : w5.cell? ⟨w.heap.size, 3, none⟩ = some (.string ⟨#[]⟩) := (blk_cell K4.out 3).trans rfl
        have f4_3 := blk_frozen K4.out 3
        refine start_ (n := 6) (S := fun w' => w'.cell? ⟨w.heap.size + 1, 0, none⟩ = some (.int .i64 0) ∧ w'.cell? ⟨w.heap.size + 1, 1, none⟩ = some (.int .i64 0) ∧ w'.cell? ⟨w.heap.size + 1, 2, none⟩ = some (.int .i64 at_) ∧ w'.cell? ⟨w.heap.size + 1, 3, none⟩ = some (.string s)) (ds := []) #[false, false, false, false, false, false] (by kernel_rfl) rfl rfl ⟨cell_drew c6_0, cell_drew c6_1, cell_drew c6_2, cell_drew c6_3⟩ (fun hHeld => ?_)
        refine pure_ (i := 1) (N := some 38) (v := ?_) (a' := ?_) #[false, true, false, false, false, false] rfl rfl (by kernel_rfl) (fun _ _ _ h => h) (Or.inl ⟨by rfl, ?_⟩) ?_ ?_
        rotate_left
        · intro w'
          go_simp
          with_reducible rfl
        rotate_left
        · simp only [Act.put, List.setIfInBounds_toArray, List.set_cons_zero, List.set_cons_succ, i64_w, i32_w]
          rfl
        refine take_ (i := 0) (N := some 37) (v := ?_) (a' := ?_) #[true, true, false, false, false, false] rfl rfl (by kernel_rfl) (fun _ _ _ h => h) (Or.inl ⟨by rfl, ?_⟩) hHeld ?_ ?_
        rotate_left
        · rintro w' ⟨s0, s1, s2, s3⟩
          go_simp
          with_reducible rfl
        rotate_left
        · simp only [Act.put, List.setIfInBounds_toArray, List.set_cons_zero, List.set_cons_succ, i64_w, i32_w]
          rfl
        refine take_ (i := 2) (N := some 39) (v := ?_) (a' := ?_) #[true, true, true, false, false, false] rfl rfl (by kernel_rfl) (fun _ _ _ h => h) (Or.inl ⟨by rfl, ?_⟩) hHeld ?_ ?_
        rotate_left
        · rintro w' ⟨s0, s1, s2, s3⟩
          go_simp
          with_reducible rfl
        rotate_left
        · simp only [Act.put, List.setIfInBounds_toArray, List.set_cons_zero, List.set_cons_succ, i64_w, i32_w]
          rfl
        refine pure_ (i := 3) (N := some 40) (v := ?_) (a' := ?_) #[true, true, true, true, false, false] rfl rfl (by kernel_rfl) (fun _ _ _ h => h) (Or.inl ⟨by rfl, ?_⟩) ?_ ?_
        rotate_left
        · intro w'
          go_simp
          with_reducible rfl
        rotate_left
        · simp only [Act.put, List.setIfInBounds_toArray, List.set_cons_zero, List.set_cons_succ, i64_w, i32_w]
          rfl
        refine one_ (i := 4) (N := none) #[true, true, true, true, true, false] rfl rfl (by kernel_rfl) (by decide) (fun K hK => ?_)
        refine skip_ (w1 := ?_) (by rfl) rfl ?_ ?_
        rotate_left
        · go_simp
          rfl
        refine hK.out _ _ ⟨(by go_simp), (by go_simp), (by go_simp), (by go_simp)⟩ (fun hHeld => ?_)
        clear hK K
        refine pure_ (i := 5) (N := some 5) (v := ?_) (a' := ?_) #[true, true, true, true, true, true] rfl rfl (by kernel_rfl) (fun _ _ _ h => h) (Or.inl ⟨by rfl, ?_⟩) ?_ ?_
        rotate_left
        · intro w'
          go_simp
          with_reducible rfl
        rotate_left
        · simp only [Act.put, List.setIfInBounds_toArray, List.set_cons_zero, List.set_cons_succ, i64_w, i32_w]
          rfl
        refine done_ (by kernel_rfl) ?_
        go_wp2_with fail
        refine bodyPost_ret (results_cell_tmp rfl _ _ (w.heap.size) 30 #[.int .i64 0, .int .i64 0, .int .i64 at_, .string s] (0, 0) _ rfl (blk_drew (blk_put (blk_put (blk_put (blk_put K4.out 0 _ rfl) 1 _ rfl) 2 _ rfl) 3 _ rfl)) Tryd.underlying30 rfl (by kernel_rfl)) rfl ?_
        refine ⟨by rw [HF.out.1, HF.out.2]; rfl, ?_⟩
        exact below_drew (Below.setCell (Below.setCell (Below.setCell (Below.setCell HB.out (p := ⟨_, _, none⟩) (Nat.le_refl _) _) (p := ⟨_, _, none⟩) (Nat.le_refl _) _) (p := ⟨_, _, none⟩) (Nat.le_refl _) _) (p := ⟨_, _, none⟩) (Nat.le_refl _) _)
end Go.Proofs.YtjlcbhlpibgplaaDoor.P
