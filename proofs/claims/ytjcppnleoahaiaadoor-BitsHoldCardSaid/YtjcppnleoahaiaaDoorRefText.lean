/- The document's Text. -/
import Derived.Test.YtjcppnleoahaiaaDoorRefSame
import Derived.BigQuiet
namespace Go.Proofs.YtjcppnleoahaiaaDoor.P
open Go.RowKit Go.Proofs.YtjcppnleoahaiaaDoorW.PrintWords Go.Proofs.YtjcppnleoahaiaaDoorW.PrintLast Go.Proofs.YtjcppnleoahaiaaDoorW.PrintMore
set_option linter.unusedVariables false
set_option linter.unusedSimpArgs false
set_option maxRecDepth 100000 in
theorem list_more (m : Nat → Bool) (l : List Int) (hl : l = listF m) (k : Nat) (hk : k < l.length) (x : Nat) (hx : l[k] = (x : Int)) :
    ((∃ h : k + 1 < l.length, l[k + 1] = (x : Int) + 1) ↔ (x + 1 < 4096 ∧ m (x + 1) = true)) ∧ x < 4096 ∧ nextF m ((x : Int) + 1) = atF m (k + 1) ∧ m x = true := by
  subst hl
  obtain ⟨j, hj, hm, he⟩ := listF_at m hk
  have hjx : j = x := by omega
  subst hjx
  have hn := next_more m hk
  rw [hx] at hn
  refine ⟨⟨?_, ?_⟩, hj, hn, hm⟩
  · rintro ⟨h, h2⟩
    obtain ⟨j2, hj2, hm2, he2⟩ := listF_at m h
    have : j2 = j + 1 := by omega
    exact ⟨by omega, by rw [← this]; exact hm2⟩
  · rintro ⟨h1, h2⟩
    have h3 : nextF m ((j : Int) + 1) = ((j + 1 : Nat) : Int) := next_some m _ (j + 1) h1 h2 (by omega) (fun i h4 h5 => by omega)
    rw [hn] at h3
    by_cases h : k + 1 < (listF m).length
    · rw [atF_lt m h] at h3
      exact ⟨h, by omega⟩
    · rw [atF_end m (by omega)] at h3
      omega
/-- What stands at a round's head. -/
def TxtRel (w : World) (m : Nat → Bool) (l : List Int) (A : Option Addr) (c : Nat) (s i : Value) (wr : World) : Prop := ∃ (k v : Nat) (out : List UInt8), k ≤ l.length ∧ v ≤ 4096 ∧ out.length ≤ 10 * v ∧ s = .string ⟨out.toArray⟩ ∧ i = .int .i64 k ∧ Hid (nextF m v = atF m k) ∧ Hid ((itemsF m v).foldl addT out = textF m) ∧ Hid (wr.heap[w.heap.size]? = some (.cells #[.slice A l.length c] 30 (0, 0))) ∧ Hid (Below w.heap.size w wr)
def RunRel (w : World) (m : Nat → Bool) (l : List Int) (A : Option Addr) (c : Nat) (i j : Nat) (s : Value) (wr : World) : Prop := ∃ k : Nat, i ≤ k ∧ k < l.length ∧ s = .int .i64 k ∧ Hid (∀ h : k < l.length, l[k] = ((j + (k - i) : Nat) : Int)) ∧ Hid (lastF m j = lastF m (j + (k - i))) ∧ Hid (wr.heap[w.heap.size]? = some (.cells #[.slice A l.length c] 30 (0, 0))) ∧ Hid (Below w.heap.size w wr)
theorem bytes_run2 (O dk X : List UInt8) (hX : X = O ++ 45 :: dk) : (({ data := O.toArray } : ByteArray) ++ { data := #[45] } ++ { data := dk.toArray }) = ⟨X.toArray⟩ := by
  rw [hX]
  apply ByteArray.ext
  simp [ByteArray.data_append]
set_option maxRecDepth 100000 in
set_option maxHeartbeats 8000000 in
theorem refText_any (m : Nat → Bool) (A : Option Addr) (c : Nat) (w : World) (hr : Kd.C (Kd.int .i64) w A (listF m).length (listF m)) (hc : (listF m).length ≤ c) :
    Calls Tryd.prog 22 #[.agg #[.slice A (listF m).length c]] w fun e w' => e = .returned (.string ⟨(textF m).toArray⟩) ∧ Below w.heap.size w w' := by
  have h4 := listF_len m
  obtain ⟨l, hl⟩ : ∃ l, l = listF m := ⟨_, rfl⟩
  rw [← hl] at hr hc h4 ⊢
  have HL := Lib.hid hl
  have HR := Lib.hid hr
  have HC := Lib.hid hc
  have hu30 := Tryd.underlying30
  clear hl hr hc
  go_enter Tryd.func22, Tryd.ntmps22
  go_wp2_with fail
  obtain ⟨w2, hw2⟩ : ∃ W_, W_ = w.alloc (.cells #[.slice A l.length c] 30) := ⟨_, rfl⟩
  rw [← hw2]
  have HK2 : Hid (w2.heap[w.heap.size]? = some (.cells #[.slice A l.length c] 30 (0, 0))) := Lib.hid (by rw [hw2]; exact heap_alloc_new w _)
  have HB2 : Hid (Below w.heap.size w w2) := Lib.hid (by rw [hw2]; exact below_alloc (Below.refl _ _) _)
  clear hw2
  go_loopw [3, 4, 5] (fun s i _ wr => TxtRel w m l A c s i wr) (fun _ i _ _ => l.length - (intOf i).toNat)
  case atStart => exact ⟨0, 0, [], Nat.zero_le _, by omega, by simp, rfl, rfl, Lib.hid (next_first m), Lib.hid rfl, HK2, HB2⟩
  case round =>
    obtain ⟨i, v, out, hi, hv, hlen, rfl, rfl, HN, HF, HK, HB⟩ := hrel
    have c0 : wr.cell? ⟨w.heap.size, 0, none⟩ = some (.slice A l.length c) := (blk_cell HK.out 0).trans rfl
    by_cases hlt : i < l.length
    · obtain ⟨b, off, rfl, hblt, hcell⟩ := ints_at (Kd.C_below HR.out HB.out) i hlt
      have hat : ∃ j : Nat, j < 4096 ∧ m j = true ∧ l[i] = (j : Int) := by
        have hh : ∀ (l' : List Int) (h : l' = listF m) (h2 : i < l'.length), ∃ j : Nat, j < 4096 ∧ m j = true ∧ l'[i] = (j : Int) := by
          intro l' h h2; subst h; exact listF_at m h2
        exact hh l HL.out hlt
      obtain ⟨j, hj, hmj, hej⟩ := hat
      have hnx : nextF m v = j := by
        have h1 := HN.out
        have h2 : atF m i = l[i] := by
          have hh : ∀ (l' : List Int) (h : l' = listF m) (h2 : i < l'.length), atF m i = l'[i] := by
            intro l' h h2; subst h; exact atF_lt m h2
          exact hh l HL.out hlt
        rw [h1, h2, hej]
      have hvj : v ≤ j := by
        rcases next_cases m v with ⟨h1, _⟩ | ⟨j2, h1, _, h2, _, _⟩
        · rw [hnx] at h1; omega
        · rw [hnx] at h1; omega
      have HNX := Lib.hid hnx
      have HEJ := Lib.hid hej
      rw [hej] at hcell
      have XI := Lib.hid hcell
      clear hnx hej hcell hmj hblt HN
      have i0 : (0 : Int) ≤ (i : Int) := by omega
      have i1 : (i : Int) < (l.length : Int) := by omega
      go_wp2_with fail
      go_loopw [5] (fun s wr => RunRel w m l (some ⟨b, off, none⟩) c i j s wr) (fun s _ => l.length - (intOf s).toNat)
      case atStart => exact ⟨i, Nat.le_refl _, hlt, rfl, Lib.hid (fun _ => by rw [HEJ.out]; simp), Lib.hid (by simp), HK, HB⟩
      case round =>
        clear c0
        clear HK HB
        obtain ⟨k, hik, hkl, rfl, HEK, HLA, HK, HB⟩ := hrel
        have c0 : wr.cell? ⟨w.heap.size, 0, none⟩ = some (.slice (some ⟨b, off, none⟩) l.length c) := (blk_cell HK.out 0).trans rfl
        obtain ⟨b2, off2, hA2, _, hck⟩ := ints_at (Kd.C_below HR.out HB.out) k hkl
        obtain ⟨rfl, rfl⟩ : b = b2 ∧ off = off2 := by simpa using hA2
        clear hA2
        obtain ⟨x, hx⟩ : ∃ x : Nat, x = j + (k - i) := ⟨_, rfl⟩
        have hxk := HEK.out hkl
        rw [← hx] at hxk
        rw [hxk] at hck
        obtain ⟨hiff, hx4, hnx4, hmx⟩ := list_more m l HL.out k hkl x hxk
        have HX := Lib.hid hx
        have HIFF := Lib.hid hiff
        have HNX4 := Lib.hid hnx4
        clear hx hxk hiff hnx4 hmx
        have XK := Lib.hid hck
        have k0 : (0 : Int) ≤ (k : Int) := by omega
        have k1 : (k : Int) < (l.length : Int) := by omega
        have k2 : (0 : Int) ≤ (k : Int) + 1 := by omega
        by_cases hmore : x + 1 < 4096 ∧ m (x + 1) = true
        · obtain ⟨hk1, hy⟩ := HIFF.out.2 hmore
          obtain ⟨b3, off3, hA3, _, hcy⟩ := ints_at (Kd.C_below HR.out HB.out) (k + 1) hk1
          obtain ⟨rfl, rfl⟩ : b = b3 ∧ off = off3 := by simpa using hA3
          clear hA3
          rw [hy] at hcy
          have HY := Lib.hid hy
          clear hy
          have k3 : (k : Int) + 1 < (l.length : Int) := by omega
          have k4 : decide ((k : Int) + 1 < (l.length : Int)) = true := decide_eq_true (by omega)
          have hst := lastF_step m x
          rw [if_pos hmore] at hst
          have HST := Lib.hid hst
          clear hst hmore
          go_wp2_with fail
          go_quiet (fail)
          go_wp2_with fail
          go_roundw
          case rel => exact ⟨k + 1, by omega, hk1, by norm_cast, Lib.hid (fun _ => by rw [HY.out, HX.out]; omega), Lib.hid (by rw [HLA.out, ← HX.out, HST.out, HX.out]; congr 1; omega), Lib.hid (blk_drewN HK.out _), Lib.hid (pw_below_drewN HB.out _)⟩
          case measure => first | (simp [intOf]; done) | (simp [intOf]; omega)
        · have hst := lastF_step m x
          rw [if_neg hmore] at hst
          have HST := Lib.hid hst
          have hno : ∀ h : k + 1 < l.length, ¬ l[k + 1] = (x : Int) + 1 := fun h h2 => hmore (HIFF.out.1 ⟨h, h2⟩)
          clear hst hmore
          by_cases hk1 : k + 1 < l.length
          · obtain ⟨b3, off3, hA3, _, hcy⟩ := ints_at (Kd.C_below HR.out HB.out) (k + 1) hk1
            obtain ⟨rfl, rfl⟩ : b = b3 ∧ off = off3 := by simpa using hA3
            clear hA3
            obtain ⟨y, hy⟩ : ∃ y, y = l[k + 1] := ⟨_, rfl⟩
            have hne := hno hk1
            rw [← hy] at hcy hne
            have k3 : (k : Int) + 1 < (l.length : Int) := by omega
            have k4 : decide ((k : Int) + 1 < (l.length : Int)) = true := decide_eq_true (by omega)
            have k5 : (y == (x : Int) + 1) = false := beq_eq_false_iff_ne.2 hne
            clear hy hne hno
            have hlk : lastF m j = x := by rw [HLA.out, ← HX.out, HST.out]
            have hxj1 : x ≤ j + (k - i) := Nat.le_of_eq HX.out
            have hxj2 : j + (k - i) ≤ x := Nat.le_of_eq HX.out.symm
            have HLK := Lib.hid hlk
            clear hlk
            go_wp2_with fail
            go_quiet (fail)
            obtain ⟨w5, hw5⟩ : ∃ W_, W_ = wr.drewN nq := ⟨_, rfl⟩
            rw [← hw5]
            have HK5 : Hid (w5.heap[w.heap.size]? = some (.cells #[.slice (some ⟨b, off, none⟩) l.length c] 30 (0, 0))) := Lib.hid (by rw [hw5]; exact blk_drewN HK.out _)
            have HB5 : Hid (Below w.heap.size w w5) := Lib.hid (by rw [hw5]; exact pw_below_drewN HB.out _)
            have hc5 : w5.cell? ⟨w.heap.size, 0, none⟩ = some (.slice (some ⟨b, off, none⟩) l.length c) := (blk_cell HK5.out 0).trans rfl
            have hk5 : w5.cell? ⟨b, off + k, none⟩ = some (.int .i64 x) := by rw [hw5]; exact XK.out
            obtain ⟨b4, off4, hA4, _, hci⟩ := ints_at (Kd.C_below HR.out HB5.out) i hlt
            obtain ⟨rfl, rfl⟩ : b = b4 ∧ off = off4 := by simpa using hA4
            rw [HEJ.out] at hci
            clear hA4 hw5 c0 HK HB
            have hjl := itoa_len j hj
            obtain ⟨dj, hdj⟩ : ∃ dj, dj = Lib.itoa (j : Int) := ⟨_, rfl⟩
            have HDJ := Lib.hid hdj
            rw [← hdj] at hjl
            clear hdj
            obtain ⟨O, hO⟩ : ∃ O, O = (if out = [] then [] else out ++ [44]) ++ dj := ⟨_, rfl⟩
            have hOl : O.length ≤ out.length + 5 := by
              rw [hO, List.length_append]
              split <;> simp at * <;> omega
            have HO := Lib.hid hO
            clear hO
            by_cases ho : out = []
            all_goals
              first
              | (have hne : out.isEmpty = true := by rw [ho]; rfl)
              | (have hne : out.isEmpty = false := by simpa using ho)
              have HOUT := Lib.hid ho
              clear ho
              go_wp2_with fail
              refine (decimal_any j hj _).mono ?_
              rintro e w6 ⟨rfl, hb6⟩
              rw [← HDJ.out]
              have HK6 := Lib.hid (blk_below HK5.out hb6)
              have HB6 := Lib.hid (below_step HB5.out hb6)
              have hc6 := pw_cell_below hb6 hc5
              have hk6 := pw_cell_below hb6 hk5
              clear hb6 hc5 hk5 hci
              by_cases h2 : i + 2 ≤ k
              · have HFold : Hid ((itemsF m (x + 1)).foldl addT (addT out (j, x)) = textF m) := Lib.hid (by
                  have h3 := HF.out
                  rw [itemsF_run m v j HNX.out (by rw [HLK.out]; omega), HLK.out, List.foldl_cons] at h3
                  exact h3)
                obtain ⟨dk, hdk⟩ : ∃ dk, dk = Lib.itoa (x : Int) := ⟨_, rfl⟩
                have hkl2 := itoa_len x hx4
                have HDK := Lib.hid hdk
                rw [← hdk] at hkl2
                obtain ⟨X, hX⟩ : ∃ X, X = O ++ 45 :: dk := ⟨_, rfl⟩
                have HX3 := Lib.hid hX
                have HX2 : Hid (X = addT out (j, x)) := Lib.hid (by
                  rw [hX, HO.out, HDJ.out, hdk]
                  unfold addT itemT
                  simp only
                  rw [if_neg (show ¬ j = x by omega), List.append_assoc])
                have hXl : X.length ≤ out.length + 10 := by rw [hX, List.length_append, List.length_cons]; omega
                clear hdk hX
                have t1 : decide ((i : Int) + 2 ≤ (k : Int)) = true := decide_eq_true (by omega)
                go_wp2_with fail
                refine (decimal_any x hx4 _).mono ?_
                rintro e w7 ⟨rfl, hb7⟩
                rw [← HDK.out]
                have HK7 := Lib.hid (blk_below HK6.out hb7)
                have HB7 := Lib.hid (below_step HB6.out hb7)
                clear hb7
                go_wp2_with fail
                go_roundw
                case rel => exact ⟨k + 1, x + 1, X, by omega, by omega, by omega, by first | rw [bytes_yes out dj O HOUT.out HO.out, bytes_run2 O dk X HX3.out] | rw [bytes_no out dj O HOUT.out HO.out, bytes_run2 O dk X HX3.out], by norm_cast, Lib.hid (by have h9 := HNX4.out; norm_cast at h9), Lib.hid (by rw [HX2.out]; exact HFold.out), HK7, HB7⟩
                case measure => first | (simp [intOf]; done) | (simp [intOf]; omega)
              · have HFold : Hid ((itemsF m (j + 1)).foldl addT (addT out (j, j)) = textF m) := Lib.hid (by
                  have h3 := HF.out
                  rw [itemsF_one m v j HNX.out (by rw [HLK.out]; omega), List.foldl_cons] at h3
                  exact h3)
                have HX2 : Hid (O = addT out (j, j)) := Lib.hid (by
                  rw [HO.out, HDJ.out]
                  unfold addT itemT
                  simp only
                  rw [if_pos trivial, List.append_nil])
                have HNI := Lib.hid (list_more m l HL.out i hlt j HEJ.out).2.2.1
                have t1 : decide ((i : Int) + 2 ≤ (k : Int)) = false := decide_eq_false (by omega)
                go_wp2_with fail
                go_roundw
                case rel => exact ⟨i + 1, j + 1, O, by omega, by omega, by omega, by first | rw [bytes_yes out dj O HOUT.out HO.out] | rw [bytes_no out dj O HOUT.out HO.out], by norm_cast, Lib.hid (by have h9 := HNI.out; norm_cast at h9), Lib.hid (by rw [HX2.out]; exact HFold.out), HK6, HB6⟩
                case measure => first | (simp [intOf]; done) | (simp [intOf]; omega)
          · have k4 : decide ((k : Int) + 1 < (l.length : Int)) = false := decide_eq_false (by omega)
            clear hno
            have hlk : lastF m j = x := by rw [HLA.out, ← HX.out, HST.out]
            have hxj1 : x ≤ j + (k - i) := Nat.le_of_eq HX.out
            have hxj2 : j + (k - i) ≤ x := Nat.le_of_eq HX.out.symm
            have HLK := Lib.hid hlk
            clear hlk
            go_wp2_with fail
            go_quiet (fail)
            obtain ⟨w5, hw5⟩ : ∃ W_, W_ = wr.drewN nq := ⟨_, rfl⟩
            rw [← hw5]
            have HK5 : Hid (w5.heap[w.heap.size]? = some (.cells #[.slice (some ⟨b, off, none⟩) l.length c] 30 (0, 0))) := Lib.hid (by rw [hw5]; exact blk_drewN HK.out _)
            have HB5 : Hid (Below w.heap.size w w5) := Lib.hid (by rw [hw5]; exact pw_below_drewN HB.out _)
            have hc5 : w5.cell? ⟨w.heap.size, 0, none⟩ = some (.slice (some ⟨b, off, none⟩) l.length c) := (blk_cell HK5.out 0).trans rfl
            have hk5 : w5.cell? ⟨b, off + k, none⟩ = some (.int .i64 x) := by rw [hw5]; exact XK.out
            obtain ⟨b4, off4, hA4, _, hci⟩ := ints_at (Kd.C_below HR.out HB5.out) i hlt
            obtain ⟨rfl, rfl⟩ : b = b4 ∧ off = off4 := by simpa using hA4
            rw [HEJ.out] at hci
            clear hA4 hw5 c0 HK HB
            have hjl := itoa_len j hj
            obtain ⟨dj, hdj⟩ : ∃ dj, dj = Lib.itoa (j : Int) := ⟨_, rfl⟩
            have HDJ := Lib.hid hdj
            rw [← hdj] at hjl
            clear hdj
            obtain ⟨O, hO⟩ : ∃ O, O = (if out = [] then [] else out ++ [44]) ++ dj := ⟨_, rfl⟩
            have hOl : O.length ≤ out.length + 5 := by
              rw [hO, List.length_append]
              split <;> simp at * <;> omega
            have HO := Lib.hid hO
            clear hO
            by_cases ho : out = []
            all_goals
              first
              | (have hne : out.isEmpty = true := by rw [ho]; rfl)
              | (have hne : out.isEmpty = false := by simpa using ho)
              have HOUT := Lib.hid ho
              clear ho
              go_wp2_with fail
              refine (decimal_any j hj _).mono ?_
              rintro e w6 ⟨rfl, hb6⟩
              rw [← HDJ.out]
              have HK6 := Lib.hid (blk_below HK5.out hb6)
              have HB6 := Lib.hid (below_step HB5.out hb6)
              have hc6 := pw_cell_below hb6 hc5
              have hk6 := pw_cell_below hb6 hk5
              clear hb6 hc5 hk5 hci
              by_cases h2 : i + 2 ≤ k
              · have HFold : Hid ((itemsF m (x + 1)).foldl addT (addT out (j, x)) = textF m) := Lib.hid (by
                  have h3 := HF.out
                  rw [itemsF_run m v j HNX.out (by rw [HLK.out]; omega), HLK.out, List.foldl_cons] at h3
                  exact h3)
                obtain ⟨dk, hdk⟩ : ∃ dk, dk = Lib.itoa (x : Int) := ⟨_, rfl⟩
                have hkl2 := itoa_len x hx4
                have HDK := Lib.hid hdk
                rw [← hdk] at hkl2
                obtain ⟨X, hX⟩ : ∃ X, X = O ++ 45 :: dk := ⟨_, rfl⟩
                have HX3 := Lib.hid hX
                have HX2 : Hid (X = addT out (j, x)) := Lib.hid (by
                  rw [hX, HO.out, HDJ.out, hdk]
                  unfold addT itemT
                  simp only
                  rw [if_neg (show ¬ j = x by omega), List.append_assoc])
                have hXl : X.length ≤ out.length + 10 := by rw [hX, List.length_append, List.length_cons]; omega
                clear hdk hX
                have t1 : decide ((i : Int) + 2 ≤ (k : Int)) = true := decide_eq_true (by omega)
                go_wp2_with fail
                refine (decimal_any x hx4 _).mono ?_
                rintro e w7 ⟨rfl, hb7⟩
                rw [← HDK.out]
                have HK7 := Lib.hid (blk_below HK6.out hb7)
                have HB7 := Lib.hid (below_step HB6.out hb7)
                clear hb7
                go_wp2_with fail
                go_roundw
                case rel => exact ⟨k + 1, x + 1, X, by omega, by omega, by omega, by first | rw [bytes_yes out dj O HOUT.out HO.out, bytes_run2 O dk X HX3.out] | rw [bytes_no out dj O HOUT.out HO.out, bytes_run2 O dk X HX3.out], by norm_cast, Lib.hid (by have h9 := HNX4.out; norm_cast at h9), Lib.hid (by rw [HX2.out]; exact HFold.out), HK7, HB7⟩
                case measure => first | (simp [intOf]; done) | (simp [intOf]; omega)
              · have HFold : Hid ((itemsF m (j + 1)).foldl addT (addT out (j, j)) = textF m) := Lib.hid (by
                  have h3 := HF.out
                  rw [itemsF_one m v j HNX.out (by rw [HLK.out]; omega), List.foldl_cons] at h3
                  exact h3)
                have HX2 : Hid (O = addT out (j, j)) := Lib.hid (by
                  rw [HO.out, HDJ.out]
                  unfold addT itemT
                  simp only
                  rw [if_pos trivial, List.append_nil])
                have HNI := Lib.hid (list_more m l HL.out i hlt j HEJ.out).2.2.1
                have t1 : decide ((i : Int) + 2 ≤ (k : Int)) = false := decide_eq_false (by omega)
                go_wp2_with fail
                go_roundw
                case rel => exact ⟨i + 1, j + 1, O, by omega, by omega, by omega, by first | rw [bytes_yes out dj O HOUT.out HO.out] | rw [bytes_no out dj O HOUT.out HO.out], by norm_cast, Lib.hid (by have h9 := HNI.out; norm_cast at h9), Lib.hid (by rw [HX2.out]; exact HFold.out), HK6, HB6⟩
                case measure => first | (simp [intOf]; done) | (simp [intOf]; omega)
    · obtain rfl : i = l.length := by omega
      have hnone := itemsF_none m v (by
        rw [HN.out]
        have hh : ∀ (l' : List Int) (h : l' = listF m), atF m l'.length < 0 := by
          intro l' h; subst h; rw [atF_end m (Nat.le_refl _)]; omega
        exact hh l HL.out)
      have hfin := HF.out
      rw [hnone, List.foldl_nil] at hfin
      have HFIN := Lib.hid hfin
      clear hnone hfin hlt
      go_wp2_with fail
      go_ret
      exact ⟨by rw [HFIN.out]; rfl, HB.out⟩
end Go.Proofs.YtjcppnleoahaiaaDoor.P
