/- TreeParents: the walk of the law. -/
import Derived.Test.YtpggidmpkhmijaaHDepths
import Derived.Test.YtpggidmpkhmijaaHRight0
namespace Go.Proofs.Ytpggidmpkhmijaa.P
open Go.RowKit Go.Proofs.YtpggidmpkhmijaaW.PrintWords Go.Proofs.YtpggidmpkhmijaaW.PrintLast Go.Proofs.YtpggidmpkhmijaaW.PrintMore
attribute [local go_sem] max2_int min2_int max_two min_two max_three min_three max_four min_four
set_option linter.unusedVariables false
set_option linter.unusedSimpArgs false
set_option maxRecDepth 100000 in
set_option maxHeartbeats 2000000 in
theorem TreeParents_out (A : Option Addr) (c : Nat) (l : List S24) (root : Int) (k : Nat) (b : Bool) (w : World) (hr : Kd.C k24 w A l.length l) (hc : l.length ≤ c)
    (hsm : runnellaw4_small.f k [⟨l, root⟩] = some b) (hS : b = true → tree_Sound.f l root = some false) (hP : b = true → tree_Parents.f k l root = some []) (hD : b = true → tree_Depth.f k l root = some 0) :
    Calls Try.prog 6 #[.agg #[.slice A l.length c, .int .i64 root]] w fun e w' => e = .returned (.bool true) ∧ Below w.heap.size w w' := by
  have T0 := Aside0.mk (TW.new (c := c) root hr)
  have HC := Aside0.mk hc
  have HSM := Lib.hid hsm
  have HSO := Lib.hid hS
  have HPA := Lib.hid hP
  have HDE := Lib.hid hD
  clear hr hc hsm hS hP hD
  have hu30 := Try.underlying30
  have hu24 := Try.underlying24
  go_enter Try.func6, Try.ntmps6
  go_wp2_with fail
  refine (shown_calls _).mono ?_
  rintro e w1 ⟨rfl, hb1⟩
  have T1 := Aside0.mk (T0.out.step hb1)
  have z1 := T1.out.z
  have t10 := T1.out.t0
  have t11 := T1.out.t1
  clear hb1
  go_wp2_with fail
  refine (runnellaw4_small.calls k _ 1 [⟨l, root⟩] b _ ?hn1 (Nat.le_refl _) HSM.out).mono ?_
  case hn1 => exact nodeC w1 A c l root T1.out.C HC.out
  rintro e w2 ⟨rfl, ⟨n2, rfl⟩⟩
  have T2 := Aside0.mk ((T1.out.alloc (.cells #[.slice A l.length c, .int .i64 root] 30)).drewN n2)
  cases b with
  | false =>
    go_wp2
    go_ret
    exact ⟨rfl, T2.out.below⟩
  | true =>
    go_wp2_with fail
    refine (tree_Parents.calls k A c l root [] _ T2.out.C HC.out (HPA.out (by trivial))).mono ?_
    rintro e w3 ⟨v3, rfl, hS3, hb3⟩
    obtain ⟨A3, c3, rfl⟩ := Kd.R_slice hS3
    have T3 := Aside0.mk (T2.out.step hb3)
    have z3 := T3.out.z
    have t30 := T3.out.t0
    have t31 := T3.out.t1
    clear hb3 hS3
    go_wp2_with fail
    refine (tree_Sound.calls A c l root false _ T3.out.C HC.out (HSO.out (by trivial))).mono ?_
    rintro e w4 ⟨rfl, hb4⟩
    have T4 := Aside0.mk (T3.out.step hb4)
    have z4 := T4.out.z
    have t40 := T4.out.t0
    have t41 := T4.out.t1
    clear hb4
    go_wp2_with fail
    refine (tree_Depth.calls k A c l root 0 _ T4.out.C HC.out (HDE.out (by trivial))).mono ?_
    rintro e w5 ⟨rfl, hb5⟩
    have T5 := Aside0.mk (T4.out.step hb5)
    have z5 := T5.out.z
    have t50 := T5.out.t0
    have t51 := T5.out.t1
    clear hb5
    go_wp2_with fail
    refine (tree_Right.calls k A c l root false _ T5.out.C HC.out (by unfold tree_Right.f; rw [HSO.out (by trivial)]; rfl)).mono ?_
    rintro e w6 ⟨rfl, hb6⟩
    have T6 := Aside0.mk (T5.out.step hb6)
    go_wp2_with fail
    go_ret
    exact ⟨rfl, T6.out.below⟩
/-- What the law asks of a sound tree. -/
structure ParentsFacts (k : Nat) (l : List S24) (root : Int) (ps : List Int) : Prop where
  small : runnellaw4_small.f k [⟨l, root⟩] = some true
  sound : tree_Sound.f l root = some true
  par : tree_Parents.f k l root = some ps
  len : ps.length = l.length
  lb : l.length ≤ 4000
  r0 : 0 ≤ root
  r1 : root < (l.length : Int)
  last : rd ps root = -1
  up : ∀ i : Nat, (i : Int) < root → (i : Int) < rd ps i ∧ rd ps i < (l.length : Int)
  kb : ∀ i : Nat, (i : Int) < root → (rd_T24 l (rd ps i)).f4.length ≤ 4000
  one : ∀ i : Nat, (i : Int) < root → ((rd_T24 l (rd ps i)).f4.filter (fun x => x == (i : Int))).length = 1
set_option maxRecDepth 100000 in
set_option maxHeartbeats 2000000 in
theorem TreeParents_in (A : Option Addr) (c : Nat) (l : List S24) (root : Int) (k : Nat) (ps : List Int) (w : World) (hr : Kd.C k24 w A l.length l) (hc : l.length ≤ c) (F : ParentsFacts k l root ps) :
    Calls Try.prog 6 #[.agg #[.slice A l.length c, .int .i64 root]] w fun e w' => e = .returned (.bool true) ∧ Below w.heap.size w w' := by
  have T0 := Aside0.mk (TW.new (c := c) root hr)
  have HC := Aside0.mk hc
  clear hr hc
  have hu30 := Try.underlying30
  have hu24 := Try.underlying24
  go_enter Try.func6, Try.ntmps6
  go_wp2_with fail
  refine (shown_calls _).mono ?_
  rintro e w1 ⟨rfl, hb1⟩
  have T1 := Aside0.mk (T0.out.step hb1)
  have z1 := T1.out.z
  have t10 := T1.out.t0
  have t11 := T1.out.t1
  clear hb1
  go_wp2_with fail
  refine (runnellaw4_small.calls k _ 1 [⟨l, root⟩] true _ ?hn1 (Nat.le_refl _) F.small).mono ?_
  case hn1 => exact nodeC w1 A c l root T1.out.C HC.out
  rintro e w2 ⟨rfl, ⟨n2, rfl⟩⟩
  have T2 := Aside0.mk ((T1.out.alloc (.cells #[.slice A l.length c, .int .i64 root] 30)).drewN n2)
  go_wp2_with fail
  refine (tree_Parents.calls k A c l root ps _ T2.out.C HC.out F.par).mono ?_
  rintro e w3 ⟨v3, rfl, hS3, hb3⟩
  have T3 := Aside0.mk (T2.out.step hb3)
  have z3 := T3.out.z
  have t30 := T3.out.t0
  have t31 := T3.out.t1
  clear hb3
  obtain ⟨A3, c3, rfl, hl3, hC3⟩ := Kd.R_reads hS3
  have HC3 := Aside0.mk hC3
  have HL3 := Aside0.mk hl3
  clear hS3 hC3 hl3
  go_wp2_with fail
  refine (tree_Sound.calls A c l root true _ T3.out.C HC.out F.sound).mono ?_
  rintro e w4 ⟨rfl, hb4⟩
  have T4 := Aside0.mk (T3.out.step hb4)
  have z4 := T4.out.z
  have t40 := T4.out.t0
  have t41 := T4.out.t1
  have HC4 := Aside0.mk (Kd.C_below HC3.out hb4)
  clear hb4 z3 t30 t31
  have HLN := Lib.hid F.len
  have g1 : ((ps.length : Int) != (l.length : Int)) = false := by rw [HLN.out]; simp
  have g1' : ((ps.length : Int) == (l.length : Int)) = true := by rw [HLN.out]; simp
  have hr0 := F.r0
  have hr1 := F.r1
  have hr2 : root < (ps.length : Int) := by rw [HLN.out]; exact hr1
  have hlb : ps.length ≤ 4000 := by rw [HLN.out]; exact F.lb
  obtain ⟨ad3, e3, hcl⟩ := Kd.at_int HC4.out root hr0 hr2
  subst e3
  rw [F.last] at hcl
  go_wp2_with fail
  have HB4 := Aside0.mk (show Below w.heap.size w w4 from T4.out.below)
  go_loopw [6, 7, 8, 9] (fun v6 v7 v8 v9 wr => ∃ i : Nat, (i : Int) ≤ root ∧ v6 = .int .i64 (i : Int) ∧ Aside0 (Below w4.heap.size w4 wr)) (fun v6 _ _ _ _ => root.toNat - (intOf v6).toNat)
  case atStart => exact ⟨0, by omega, rfl, ⟨Below.refl _ _⟩⟩
  case round =>
    obtain ⟨i, hi, rfl, HB⟩ := hrel
    have TR := Aside0.mk (T4.out.step HB.out)
    have r0 := TR.out.t0
    have r1 := TR.out.t1
    by_cases hlt : (i : Int) < root
    · obtain ⟨hu1, hu2⟩ := F.up i hlt
      have HKB := Lib.hid (F.kb i hlt)
      have HONE := Lib.hid (F.one i hlt)
      obtain ⟨ad3', e3', hci⟩ := Kd.at_int (Kd.C_below HC4.out HB.out) (i : Int) (by omega) (by omega)
      cases e3'
      rw [Int.toNat_natCast] at hci
      obtain ⟨ad, Ak, ck, eA, _, _, _, _, q4, qL, qC⟩ := at_T24 TR.out.C (rd ps (i : Int)) (by omega) (by omega)
      have HEA := Lib.hid eA
      rw [eA] at r0
      clear eA
      have QL := Aside0.mk qL
      have QC := Aside0.mk qC
      have hq1 : decide (rd ps (i : Int) ≤ (i : Int)) = false := by simp; omega
      have hq2 : decide ((l.length : Int) ≤ rd ps (i : Int)) = false := by simp; omega
      have hq3 : decide ((ps.length : Int) ≤ rd ps (i : Int)) = false := by rw [HLN.out]; simp; omega
      have hq0 : 0 ≤ rd ps (i : Int) := by omega
      have hi2 : (0 : Int) ≤ (i : Int) := by omega
      have hi3 : (i : Int) < (ps.length : Int) := by omega
      have hkb := HKB.out
      have KS := Lib.hid (show ∀ W', Aside0 (Below wr.heap.size wr W') → W'.cell? ⟨w.heap.size, 0, none⟩ = some (.slice (some ad) l.length c) ∧ W'.cell? (ad3.add i) = some (.int .i64 (rd ps (i : Int))) ∧ W'.cell? ⟨(ad.add ((rd ps (i : Int)).toNat * 5)).block, (ad.add ((rd ps (i : Int)).toNat * 5)).off + 4, none⟩ = some (.slice Ak (rd_T24 l (rd ps (i : Int))).f4.length ck) ∧ Aside0 (Below wr.heap.size wr W') from fun W' hb =>
        ⟨pw_cell_below hb.out r0, pw_cell_below hb.out hci, pw_cell_below hb.out q4, hb⟩)
      have HD0 := Aside0.mk (show Below wr.heap.size wr wr.drew from below_drew (Below.refl _ _))
      clear qL qC
      go_wp2_with fail
      go_region_held3 (fun W' => W'.cell? ⟨w.heap.size, 0, none⟩ = some (.slice (some ad) l.length c) ∧ W'.cell? (ad3.add i) = some (.int .i64 (rd ps (i : Int))) ∧ W'.cell? ⟨(ad.add ((rd ps (i : Int)).toNat * 5)).block, (ad.add ((rd ps (i : Int)).toNat * 5)).off + 4, none⟩ = some (.slice Ak (rd_T24 l (rd ps (i : Int))).f4.length ck) ∧ Aside0 (Below wr.heap.size wr W'))
        (first | exact KS.out _ HD0 | (go_split_ands; exact KS.out _ (by assumption)))
        (fail)
      go_split_ands
      have HBr : Aside0 (Below wr.heap.size wr wr.drew) := by assumption
      go_wp2_with fail
      go_loopw [7, 9] (fun v7 v9 wq => ∃ n m : Nat, n ≤ (rd_T24 l (rd ps (i : Int))).f4.length ∧ v9 = .int .i64 (n : Int) ∧ v7 = .int .i64 (m : Int) ∧ m ≤ n ∧ Aside0 (m + (((rd_T24 l (rd ps (i : Int))).f4.drop n).filter (fun x => x == (i : Int))).length = 1) ∧ Aside0 (Below wr.heap.size wr wq)) (fun _ v9 _ => (rd_T24 l (rd ps (i : Int))).f4.length - (intOf v9).toNat)
      case atStart => exact ⟨0, 0, Nat.zero_le _, rfl, rfl, Nat.le_refl _, ⟨by rw [Nat.zero_add]; exact HONE.out⟩, HBr⟩
      case round =>
        obtain ⟨n, m, hn, rfl, rfl, hmn, HM, HQ⟩ := hrel
        by_cases hnl : n < (rd_T24 l (rd ps (i : Int))).f4.length
        · have HD := Lib.hid (List.drop_eq_getElem_cons hnl)
          obtain ⟨adk, ek, hck⟩ := Kd.at_int (Kd.C_below QC.out HQ.out) (n : Int) (by omega) (by omega)
          rw [rdN _ n hnl, Int.toNat_natCast] at hck
          subst ek
          by_cases hx : (rd_T24 l (rd ps (i : Int))).f4[n] = (i : Int)
          · have hx2 : ((rd_T24 l (rd ps (i : Int))).f4[n] == (i : Int)) = true := by rw [hx]; simp
            go_wp2_with fail
            refine ⟨⟨n + 1, m + 1, by omega, by go_num, by go_num, by omega, ⟨?_⟩, HQ⟩, by simp [intOf]; omega⟩
            have := HM.out
            rw [HD.out, List.filter_cons_of_pos (p := fun x => x == (i : Int)) hx2, List.length_cons] at this
            omega
          · have hx2 : ((rd_T24 l (rd ps (i : Int))).f4[n] == (i : Int)) = false := by simp [hx]
            go_wp2_with fail
            refine ⟨⟨n + 1, m, by omega, by go_num, rfl, by omega, ⟨?_⟩, HQ⟩, by simp [intOf]; omega⟩
            have := HM.out
            rw [HD.out, List.filter_cons_of_neg (by simp [hx])] at this
            exact this
        · have hie : n = (rd_T24 l (rd ps (i : Int))).f4.length := by omega
          subst hie
          have hm1 : m = 1 := by have := HM.out; rw [List.drop_length] at this; simpa using this
          subst hm1
          go_wp2_with fail
          exact ⟨⟨i + 1, by omega, by go_num, belT HB HQ⟩, by simp [intOf]; omega⟩
    · have hie : (i : Int) = root := by omega
      go_wp2_with fail
      go_ret
      exact ⟨rfl, TR.out.below⟩
end Go.Proofs.Ytpggidmpkhmijaa.P
