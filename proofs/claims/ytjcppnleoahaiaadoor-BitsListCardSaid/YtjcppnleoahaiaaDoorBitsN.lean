/- bits.Set: Text. -/
import Derived.Test.YtjcppnleoahaiaaDoorBitsT
import Derived.Test.YtjcppnleoahaiaaDoorBitsL
import Derived.Test.YtjcppnleoahaiaaDoorBitsF
import Derived.WalkSmall
namespace Go.Proofs.YtjcppnleoahaiaaDoor.P
open Go.RowKit Go.Proofs.YtjcppnleoahaiaaDoorW.PrintWords Go.Proofs.YtjcppnleoahaiaaDoorW.PrintLast Go.Proofs.YtjcppnleoahaiaaDoorW.PrintMore
set_option linter.unusedVariables false
set_option linter.unusedSimpArgs false
/-- The tables of the library lie as the text lays them. -/
def Tabs (w : World) : Prop := TabAt 0 Lib.deBruijn64tab w ∧ Lib.TabIs Tryd.prog w "internal/strconv.uint64pow10" .u64 Lib.pow10Tab ∧ 3 ≤ w.heap.size
theorem Tabs.below {w w' : World} (h : Tabs w) {n : Nat} (hb : Below n w w') (hn : 3 ≤ n) : Tabs w' :=
  ⟨tab_below h.1 hb (by omega), var?_below hb (g := 1) (by kernel_rfl) (by omega) h.2.1, Nat.le_trans h.2.2 hb.size⟩
theorem below_grow (w : World) (k : Nat) (os : Array Obj) : Below w.heap.size w (Sort.grow (w.drewN k) os) := ⟨rfl, rfl, rfl, (by show w.heap.size ≤ (w.heap ++ os).size; simp), fun b hb => (by show (w.heap ++ os)[b]? = w.heap[b]?; rw [Array.getElem?_append_left hb])⟩
theorem itoa_call (n : Nat) (hn : n < 4096) (w : World) (hT : Tabs w) : Calls Tryd.prog 39 #[.int .i64 n] w fun e w' => e = .returned (.string ⟨(Lib.itoa n).toArray⟩) ∧ Below w.heap.size w w' :=
  (Tryd.strconv_Itoa n (by omega) (by omega) w hT.2.1).mono fun e w' ⟨he, k, os, hw⟩ => ⟨he, hw ▸ below_grow w k os⟩
theorem itoa_len (n : Nat) (hn : n < 4096) : (Lib.itoa (n : Int)).length ≤ 4 := by
  rw [itoa_nat, Lib.decDigits_length]
  by_cases h : n < 10
  · rw [Lib.nDigits_small h]; omega
  · by_cases h2 : n < 100
    · rw [Lib.nDigits_unique 1 n (by omega) (by omega)]; omega
    · by_cases h3 : n < 1000
      · rw [Lib.nDigits_unique 2 n (by omega) (by omega)]; omega
      · rw [Lib.nDigits_unique 3 n (by omega) (by omega)]; omega
theorem itemT_len (a b : Nat) (ha : a < 4096) (hb : b < 4096) : (itemT (a, b)).length ≤ 9 := by
  have h1 := itoa_len a ha
  have h2 := itoa_len b hb
  unfold itemT
  rw [List.length_append]
  split <;> simp at * <;> omega
theorem addT_len (out : List UInt8) (a b : Nat) (ha : a < 4096) (hb : b < 4096) : (addT out (a, b)).length ≤ out.length + 10 := by
  have h := itemT_len a b ha hb
  unfold addT
  rw [List.length_append]
  split <;> simp at * <;> omega
/-- What stands at a round's head. -/
def TextRel (w : World) (cs : Array Value) (m : Nat → Bool) (s n : Value) (wr : World) : Prop := ∃ (v : Nat) (out : List UInt8), v ≤ 4096 ∧ out.length ≤ 10 * v ∧ n = .int .i64 (nextF m v) ∧ s = .string ⟨out.toArray⟩ ∧ (itemsF m v).foldl addT out = textF m ∧ wr.heap[w.heap.size]? = some (.cells cs 27 (0, 0)) ∧ Below w.heap.size w wr
def LastRel (w : World) (cs : Array Value) (m : Nat → Bool) (j : Nat) (s : Value) (wr : World) : Prop := ∃ k : Nat, j ≤ k ∧ k < 4096 ∧ s = .int .i64 k ∧ lastF m j = lastF m k ∧ wr.heap[w.heap.size]? = some (.cells cs 27 (0, 0)) ∧ Below w.heap.size w wr
theorem bytes_yes (out dj O : List UInt8) (h : ¬ out = []) (hO : O = (if out = [] then [] else out ++ [44]) ++ dj) : (({ data := out.toArray } : ByteArray) ++ { data := #[44] } ++ { data := dj.toArray }) = ⟨O.toArray⟩ := by
  rw [hO, if_neg h]
  apply ByteArray.ext
  simp [ByteArray.data_append]
theorem bytes_no (out dj O : List UInt8) (h : out = []) (hO : O = (if out = [] then [] else out ++ [44]) ++ dj) : (({ data := out.toArray } : ByteArray) ++ { data := dj.toArray }) = ⟨O.toArray⟩ := by
  rw [hO, if_pos h, h]
  apply ByteArray.ext
  simp [ByteArray.data_append]
theorem bytes_run (O dk X : List UInt8) (hX : X = O ++ 45 :: dk) : (({ data := O.toArray } : ByteArray) ++ ({ data := #[45] } ++ { data := dk.toArray })) = ⟨X.toArray⟩ := by
  rw [hX]
  apply ByteArray.ext
  simp [ByteArray.data_append]
set_option maxRecDepth 100000 in
set_option maxHeartbeats 4000000 in
theorem text_any (m : Nat → Bool) (w : World) (hT : Tabs w) :
    Calls Tryd.prog 21 #[.agg (cells m)] w fun e w' => e = .returned (.string ⟨(textF m).toArray⟩) ∧ Below w.heap.size w w' := by
  have hsz := cells_size m
  have hcall := next_call m
  have hhas := has_any m
  obtain ⟨cs, hcs⟩ : ∃ cs, cs = cells m := ⟨_, rfl⟩
  rw [← hcs] at hsz hcall hhas ⊢
  have HCALL := Lib.hid hcall
  have HHAS := Lib.hid hhas
  have HT := Lib.hid hT
  have hi : (Tryd.prog.info? 27).map (·.size) = some cs.size := by rw [hsz]; kernel_rfl
  clear hcs hcall hT hhas
  go_enter Tryd.func21, Tryd.ntmps21
  go_wp2_with (((with_reducible refine gate_dst (N := 6) rfl ?_); refine Stp.out ?_))
  unfold Stp
  obtain ⟨w2, hw2⟩ : ∃ W_, W_ = w.alloc (.cells cs 27) := ⟨_, rfl⟩
  rw [← hw2]
  have HK1 : Hid (w2.heap[w.heap.size]? = some (.cells cs 27 (0, 0))) := Lib.hid (by rw [hw2]; exact heap_alloc_new w _)
  have HB : Hid (Below w.heap.size w w2) := Lib.hid (by rw [hw2]; exact below_alloc (Below.refl _ _) _)
  clear hw2
  refine wpList_load_row rfl 27 (.tmp 1) rfl w.heap.size rfl 27 cs (0, 0) _ HK1.out Tryd.underlying27 rfl hi ?_
  go_wp2_with fail
  refine (HCALL.out 0 _ (by omega) (HT.out.below HB.out HT.out.2.2).1 (Nat.lt_of_lt_of_le (by have := HT.out.2.2; omega) HB.out.size)).mono ?_
  rintro e w3 ⟨rfl, hb3⟩
  have HK3 := Lib.hid (blk_below HK1.out hb3)
  have HB3 := Lib.hid (below_step HB.out hb3)
  clear hb3 HK1 HB
  go_wp2_with fail
  go_loopw [3, 4, 5] (fun s n _ wr => TextRel w cs m s n wr) (fun _ n _ _ => if intOf n < 0 then 0 else 4097 - (intOf n).toNat)
  case atStart => exact ⟨0, [], by omega, by simp, rfl, rfl, rfl, HK3.out, HB3.out⟩
  case round =>
    obtain ⟨v, out, hv, hlen, rfl, rfl, hfold, hk, hb⟩ := hrel
    have HF := Lib.hid hfold
    have HK := Lib.hid hk
    have HBb := Lib.hid hb
    clear hfold hk hb
    rcases next_cases m v with ⟨he, hend⟩ | ⟨j, he, hj, hvj, hmj, hno⟩
    · have hnone := itemsF_none m v (by omega)
      have hfin := HF.out
      rw [hnone, List.foldl_nil] at hfin
      rw [he]
      have HFIN := Lib.hid hfin
      clear he hend hnone hfin
      go_wp2_with fail
      go_ret
      exact ⟨by rw [HFIN.out]; rfl, HBb.out⟩
    · rw [he]
      have hvj' : v ≤ j := by omega
      have HE := Lib.hid he
      clear he hmj hno hvj
      have hjl := itoa_len j hj
      obtain ⟨dj, hdj⟩ : ∃ dj, dj = Lib.itoa (j : Int) := ⟨_, rfl⟩
      have HDJ := Lib.hid hdj
      rw [← hdj] at hjl
      clear hdj
      obtain ⟨O, hO⟩ : ∃ O, O = (if out = [] then [] else out ++ [44]) ++ dj := ⟨_, rfl⟩
      have hOl : O.length ≤ out.length + 5 := by
        rw [hO, List.length_append]
        split <;> simp at * <;> omega
      have HO := Lib.hid hO
      clear hO
      by_cases ho : out = []
      all_goals
        first
        | (have hne : out.isEmpty = true := by rw [ho]; rfl)
        | (have hne : out.isEmpty = false := by simpa using ho)
        have HOUT := Lib.hid ho
        clear ho
        go_wp2_with fail
        refine (itoa_call j hj _ (HT.out.below HBb.out HT.out.2.2)).mono ?_
        rintro e w4 ⟨rfl, hb4⟩
        rw [← HDJ.out]
        have HK4 := Lib.hid (blk_below HK.out hb4)
        have HB4 := Lib.hid (below_step HBb.out hb4)
        clear hb4
        go_wp2_with fail
        first
        | rw [bytes_yes out dj O HOUT.out HO.out]
        | rw [bytes_no out dj O HOUT.out HO.out]
        clear hne
        go_loopw [5] (fun k wr => LastRel w cs m j k wr) (fun k _ => 4096 - (intOf k).toNat)
        case atStart => exact ⟨j, by omega, hj, rfl, rfl, HK4.out, HB4.out⟩
        case round =>
          obtain ⟨k, hjk, hk4, rfl, hlast, hk5, hb5⟩ := hrel
          have HL := Lib.hid hlast
          have HK5 := Lib.hid hk5
          have HB5 := Lib.hid hb5
          clear hlast hk5 hb5
          have hstep := lastF_step m k
          have hI : hasI m ((k : Int) + 1) = (decide (k + 1 < 4096) && m (k + 1)) := by
            unfold hasI
            have e1 : decide (0 ≤ (k : Int) + 1 ∧ (k : Int) + 1 < 4096) = decide (k + 1 < 4096) := by rw [decide_eq_decide]; omega
            rw [e1]
            rfl
          have HST := Lib.hid hstep
          have HI := Lib.hid hI
          clear hstep hI
          go_wp2_with (((with_reducible refine gate_dst (N := 23) rfl ?_); refine Stp.out ?_))
          unfold Stp
          refine wpList_load_row rfl 27 (.tmp 1) rfl w.heap.size rfl 27 cs (0, 0) _ HK5.out Tryd.underlying27 rfl hi ?_
          go_wp2_with fail
          refine (HHAS.out ((k : Int) + 1) _).mono ?_
          rintro e w6 ⟨rfl, hb6⟩
          rw [HI.out]
          have HK6 := Lib.hid (blk_below HK5.out hb6)
          have HB6 := Lib.hid (below_step HB5.out hb6)
          clear hb6
          by_cases hmore : k + 1 < 4096 ∧ m (k + 1) = true
          · have hyes : (decide (k + 1 < 4096) && m (k + 1)) = true := by simpa using hmore
            have hs := HST.out
            rw [if_pos hmore] at hs
            have HS := Lib.hid hs
            have hk1 := hmore.1
            rw [hyes]
            clear hs hmore hyes
            go_wp2_with fail
            go_roundw
            case rel => exact ⟨k + 1, by omega, hk1, by norm_cast, by rw [HL.out, HS.out], HK6.out, HB6.out⟩
            case measure => simp [intOf]; omega
          · have hno : (decide (k + 1 < 4096) && m (k + 1)) = false := by simpa using hmore
            have hs := HST.out
            rw [if_neg hmore] at hs
            have HS := Lib.hid hs
            rw [hno]
            clear hs hmore hno
            have hlk : lastF m j = k := by rw [HL.out, HS.out]
            by_cases h2 : j + 2 ≤ k
            · have HFold : Hid ((itemsF m (k + 1)).foldl addT (addT out (j, k)) = textF m) := Lib.hid (by
                have h3 := HF.out
                rw [itemsF_run m v j HE.out (by rw [hlk]; exact h2), hlk, List.foldl_cons] at h3
                exact h3)
              obtain ⟨dk, hdk⟩ : ∃ dk, dk = Lib.itoa (k : Int) := ⟨_, rfl⟩
              have hkl := itoa_len k hk4
              have HDK := Lib.hid hdk
              rw [← hdk] at hkl
              obtain ⟨X, hX⟩ : ∃ X, X = O ++ 45 :: dk := ⟨_, rfl⟩
              have HX := Lib.hid hX
              have HX2 : Hid (X = addT out (j, k)) := Lib.hid (by
                rw [hX, HO.out, HDJ.out, hdk]
                unfold addT itemT
                simp only
                rw [if_neg (show ¬ j = k by omega), List.append_assoc])
              have hXl : X.length ≤ out.length + 10 := by rw [hX, List.length_append, List.length_cons]; omega
              clear hdk hX hlk
              have t1 : decide ((j : Int) + 2 ≤ (k : Int)) = true := by simp; omega
              go_wp2_with fail
              refine (itoa_call k hk4 _ (HT.out.below HB6.out HT.out.2.2)).mono ?_
              rintro e w7 ⟨rfl, hb7⟩
              rw [← HDK.out]
              have HK7 := Lib.hid (blk_below HK6.out hb7)
              have HB7 := Lib.hid (below_step HB6.out hb7)
              clear hb7
              go_wp2_with (((with_reducible refine gate_dst (N := 10) rfl ?_); refine Stp.out ?_))
              unfold Stp
              rw [bytes_run O dk X HX.out]
              refine wpList_load_row rfl 27 (.tmp 1) rfl w.heap.size rfl 27 cs (0, 0) _ HK7.out Tryd.underlying27 rfl hi ?_
              go_wp2_with fail
              refine (HCALL.out ((k : Int) + 1) _ (by omega) (HT.out.below HB7.out HT.out.2.2).1 (Nat.lt_of_lt_of_le (by have := HT.out.2.2; omega) HB7.out.size)).mono ?_
              rintro e w8 ⟨rfl, hb8⟩
              have HK8 := Lib.hid (blk_below HK7.out hb8)
              have HB8 := Lib.hid (below_step HB7.out hb8)
              clear hb8
              go_wp2_with fail
              go_roundw
              case rel => exact ⟨k + 1, X, by omega, by omega, by norm_cast, rfl, by rw [HX2.out]; exact HFold.out, HK8.out, HB8.out⟩
              case measure =>
                have e0 : ∀ x : Int, intOf (.int .i64 x) = x := fun _ => rfl
                simp only [e0]
                rw [if_neg (show ¬ (j : Int) < 0 by omega)]
                rcases next_cases m ((k : Int) + 1) with ⟨he, _⟩ | ⟨j2, he, hj2, hlt2, _⟩
                · rw [he, if_pos (by omega)]; omega
                · rw [he, if_neg (by omega)]; omega
            · have HFold : Hid ((itemsF m (j + 1)).foldl addT (addT out (j, j)) = textF m) := Lib.hid (by
                have h3 := HF.out
                rw [itemsF_one m v j HE.out (by rw [hlk]; exact h2), List.foldl_cons] at h3
                exact h3)
              have HX2 : Hid (O = addT out (j, j)) := Lib.hid (by
                rw [HO.out, HDJ.out]
                unfold addT itemT
                simp only
                rw [if_pos trivial, List.append_nil])
              clear hlk
              have t1 : decide ((j : Int) + 2 ≤ (k : Int)) = false := by simp; omega
              go_wp2_with (((with_reducible refine gate_dst (N := 10) rfl ?_); refine Stp.out ?_))
              unfold Stp
              refine wpList_load_row rfl 27 (.tmp 1) rfl w.heap.size rfl 27 cs (0, 0) _ HK6.out Tryd.underlying27 rfl hi ?_
              go_wp2_with fail
              refine (HCALL.out ((j : Int) + 1) _ (by omega) (HT.out.below HB6.out HT.out.2.2).1 (Nat.lt_of_lt_of_le (by have := HT.out.2.2; omega) HB6.out.size)).mono ?_
              rintro e w8 ⟨rfl, hb8⟩
              have HK8 := Lib.hid (blk_below HK6.out hb8)
              have HB8 := Lib.hid (below_step HB6.out hb8)
              clear hb8
              go_wp2_with fail
              go_roundw
              case rel => exact ⟨j + 1, O, by omega, by omega, by norm_cast, rfl, by rw [HX2.out]; exact HFold.out, HK8.out, HB8.out⟩
              case measure =>
                have e0 : ∀ x : Int, intOf (.int .i64 x) = x := fun _ => rfl
                simp only [e0]
                rw [if_neg (show ¬ (j : Int) < 0 by omega)]
                rcases next_cases m ((j : Int) + 1) with ⟨he, _⟩ | ⟨j2, he, hj2, hlt2, _⟩
                · rw [he, if_pos (by omega)]; omega
                · rw [he, if_neg (by omega)]; omega
end Go.Proofs.YtjcppnleoahaiaaDoor.P
