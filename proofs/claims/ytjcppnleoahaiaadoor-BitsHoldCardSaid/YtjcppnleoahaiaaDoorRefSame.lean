/- The document's And, Minus, Without, Next, Within, Same; Decimal. -/
import Derived.Test.YtjcppnleoahaiaaDoorRefOf
import Derived.Test.YtjcppnleoahaiaaDoorPf42
namespace Go.Proofs.YtjcppnleoahaiaaDoor.P
open Go.RowKit Go.Proofs.YtjcppnleoahaiaaDoorW.PrintWords Go.Proofs.YtjcppnleoahaiaaDoorW.PrintLast Go.Proofs.YtjcppnleoahaiaaDoorW.PrintMore
set_option linter.unusedVariables false
set_option linter.unusedSimpArgs false
theorem bytes_nil : (⟨([] : List UInt8).toArray⟩ : ByteArray).toList = ([] : List UInt8) := ByteArray.toList_empty
theorem bytes_ne (a : ByteArray) (h : 0 < a.size) : a.toList ≠ [] := by
  unfold ByteArray.toList ByteArray.toList.loop
  rw [if_pos h]
  have : ∀ n i r, r ≠ [] → a.size - i = n → ByteArray.toList.loop a i r ≠ [] := by
    intro n
    induction n with
    | zero => intro i r hr hi; unfold ByteArray.toList.loop; rw [if_neg (by omega)]; simpa using hr
    | succ n ih => intro i r hr hi; unfold ByteArray.toList.loop; split; exact ih _ _ (by simp) (by omega); simpa using hr
  exact this _ _ _ (by simp) rfl
theorem field30 (A : Option Addr) (n c : Nat) (w : World) : (Instr.field 30 (.agg #[.slice A n c]) 0).run Tryd.prog w = .ok (.slice A n c) w := by
  have hu := Tryd.underlying30
  unfold Instr.field
  go_simp
  simp [asAgg]
theorem refIs_of {B : Nat} {w' : World} {l : List Int} {e : Ending} (h : ∃ v0_ : Value, e = .returned (.agg #[v0_]) ∧ Kd.R (Kd.int .i64) 3 w' B (fun _ => True) v0_ l) : RefIs w' l e := by
  obtain ⟨v, rfl, hR⟩ := h
  obtain ⟨A, c, rfl, hc, hC⟩ := Kd.R_reads hR
  exact ⟨A, c, rfl, hC, hc⟩
theorem refOut_any (m : Nat → Bool) (n : Int) (A : Option Addr) (c : Nat) (w : World) (hr : Kd.C (Kd.int .i64) w A (listF m).length (listF m)) (hc : (listF m).length ≤ c) :
    Calls Tryd.prog 16 #[.agg #[.slice A (listF m).length c], .int .i64 n] w fun e w' => RefIs w' (listF (outI m n)) e ∧ Below w.heap.size w w' :=
  (runnelref1_Set_Without.calls ((listF m).length + 1) A c _ n _ w hr hc (by rw [without_f n _ (Nat.le_trans (listF_len m) (by omega)), out_list])).mono fun e w' ⟨v, he, hR, hb⟩ => ⟨refIs_of ⟨v, he, hR⟩, hb⟩
theorem refAnd_any (a b : Nat → Bool) (A : Option Addr) (c : Nat) (A' : Option Addr) (c' : Nat) (w : World) (hr : Kd.C (Kd.int .i64) w A (listF a).length (listF a)) (hc : (listF a).length ≤ c) (hr' : Kd.C (Kd.int .i64) w A' (listF b).length (listF b)) (hc' : (listF b).length ≤ c') :
    Calls Tryd.prog 30 #[.agg #[.slice A (listF a).length c], .agg #[.slice A' (listF b).length c']] w fun e w' => RefIs w' (listF (andF a b)) e ∧ Below w.heap.size w w' :=
  (runnelref1_Set_And.calls ((listF a).length + (listF b).length + 1) A c _ A' c' _ _ w hr hc hr' hc' (by unfold runnelref1_Set_And.f; rw [part_f true _ _ (Nat.le_trans (listF_len a) (by omega)) (Nat.le_trans (listF_len b) (by omega)), Option.bind_some, and_list])).mono fun e w' ⟨v, he, hR, hb⟩ => ⟨refIs_of ⟨v, he, hR⟩, hb⟩
theorem refMin_any (a b : Nat → Bool) (A : Option Addr) (c : Nat) (A' : Option Addr) (c' : Nat) (w : World) (hr : Kd.C (Kd.int .i64) w A (listF a).length (listF a)) (hc : (listF a).length ≤ c) (hr' : Kd.C (Kd.int .i64) w A' (listF b).length (listF b)) (hc' : (listF b).length ≤ c') :
    Calls Tryd.prog 31 #[.agg #[.slice A (listF a).length c], .agg #[.slice A' (listF b).length c']] w fun e w' => RefIs w' (listF (minF a b)) e ∧ Below w.heap.size w w' :=
  (runnelref1_Set_Minus.calls ((listF a).length + (listF b).length + 1) A c _ A' c' _ _ w hr hc hr' hc' (by unfold runnelref1_Set_Minus.f; rw [part_f false _ _ (Nat.le_trans (listF_len a) (by omega)) (Nat.le_trans (listF_len b) (by omega)), Option.bind_some, min_list])).mono fun e w' ⟨v, he, hR, hb⟩ => ⟨refIs_of ⟨v, he, hR⟩, hb⟩
theorem refHas_is (m : Nat → Bool) (n : Int) (b : Bool) (hb : hasI m n = b) (A : Option Addr) (c : Nat) (w : World) (hr : Kd.C (Kd.int .i64) w A (listF m).length (listF m)) (hc : (listF m).length ≤ c) :
    Calls Tryd.prog 18 #[.agg #[.slice A (listF m).length c], .int .i64 n] w fun e w' => e = .returned (.bool b) ∧ Below w.heap.size w w' :=
  refHas_any A c _ n b (by rw [has_list, hb]) (Nat.le_trans (listF_len m) (by omega)) w hr hc
theorem refNext_is (m : Nat → Bool) (n x : Int) (hx : nextF m n = x) (A : Option Addr) (c : Nat) (w : World) (hr : Kd.C (Kd.int .i64) w A (listF m).length (listF m)) (hc : (listF m).length ≤ c) :
    Calls Tryd.prog 20 #[.agg #[.slice A (listF m).length c], .int .i64 n] w fun e w' => e = .returned (.int .i64 x) ∧ Below w.heap.size w w' :=
  runnelref1_Set_Next.calls ((listF m).length + 1) A c _ n x w hr hc (by rw [nxt_f, hx])
theorem min_nil (a b : Nat → Bool) : listF (minF a b) = [] ↔ sameF (orF a b) b = true := by
  rw [sameF_iff]
  constructor
  · intro h n hn
    have h1 := mem_nat (minF a b) n hn
    rw [h] at h1
    have h2 : minF a b n = false := by
      cases h3 : minF a b n
      · rfl
      · exact absurd (h1.2 h3) (by simp)
    simp only [minF] at h2
    simp only [orF]
    revert h2
    cases a n <;> cases b n <;> simp
  · intro h
    refine List.eq_nil_iff_forall_not_mem.2 (fun x hx => ?_)
    obtain ⟨j, hj, hm, _⟩ := (listF_mem _ x).1 hx
    have h1 := h j hj
    simp only [minF] at hm
    simp only [orF] at h1
    revert hm h1
    cases a j <;> cases b j <;> simp
set_option maxRecDepth 100000 in
set_option maxHeartbeats 4000000 in
theorem refSub_is (a b : Nat → Bool) (r : Bool) (hr0 : sameF (orF a b) b = r) (A : Option Addr) (c : Nat) (A' : Option Addr) (c' : Nat) (w : World) (hr : Kd.C (Kd.int .i64) w A (listF a).length (listF a)) (hc : (listF a).length ≤ c) (hr' : Kd.C (Kd.int .i64) w A' (listF b).length (listF b)) (hc' : (listF b).length ≤ c') :
    Calls Tryd.prog 34 #[.agg #[.slice A (listF a).length c], .agg #[.slice A' (listF b).length c']] w fun e w' => e = .returned (.bool r) ∧ Below w.heap.size w w' := by
  have HR := Lib.hid hr
  have HC := Lib.hid hc
  have HR2 := Lib.hid hr'
  have HC2 := Lib.hid hc'
  have hu30 := Tryd.underlying30
  clear hr hc hr' hc'
  have hlen : ((listF (minF a b)).length = 0) ↔ r = true := by rw [← hr0, ← min_nil, List.length_eq_zero_iff]
  obtain ⟨N, hN⟩ : ∃ N, N = (listF (minF a b)).length := ⟨_, rfl⟩
  rw [← hN] at hlen
  have HN := Lib.hid hN
  clear hN hr0
  have t1 : ((N : Int) == 0) = r := by
    rw [Bool.eq_iff_iff, beq_iff_eq, ← hlen]; omega
  clear hlen
  go_enter Tryd.func34, Tryd.ntmps34
  go_wp2_with fail
  refine (refMin_any a b A c A' c' _ (Kd.C_alloc (Kd.C_alloc HR.out _) _) HC.out (Kd.C_alloc (Kd.C_alloc HR2.out _) _) HC2.out).mono ?_
  rintro e_ w3 ⟨⟨A3, c3, rfl, hC_, hc_⟩, hb_⟩
  rw [← HN.out]
  have HB := Lib.hid (below_step (below_alloc (below_alloc (Below.refl _ _) _) _) hb_)
  clear hC_ hc_ hb_
  have hfd := field30 A3 N c3
  go_wp2_with fail
  go_ret
  exact ⟨rfl, HB.out⟩
set_option maxRecDepth 100000 in
set_option maxHeartbeats 4000000 in
theorem refSame_is (a b : Nat → Bool) (r : Bool) (hr0 : sameF a b = r) (A : Option Addr) (c : Nat) (A' : Option Addr) (c' : Nat) (w : World) (hr : Kd.C (Kd.int .i64) w A (listF a).length (listF a)) (hc : (listF a).length ≤ c) (hr' : Kd.C (Kd.int .i64) w A' (listF b).length (listF b)) (hc' : (listF b).length ≤ c') :
    Calls Tryd.prog 32 #[.agg #[.slice A (listF a).length c], .agg #[.slice A' (listF b).length c']] w fun e w' => e = .returned (.bool r) ∧ Below w.heap.size w w' := by
  have HR := Lib.hid hr
  have HC := Lib.hid hc
  have HR2 := Lib.hid hr'
  have HC2 := Lib.hid hc'
  have hu30 := Tryd.underlying30
  clear hr hc hr' hc'
  have both : sameF a b = (sameF (orF a b) b && sameF (orF b a) a) := by
    rw [Bool.eq_iff_iff, Bool.and_eq_true, sameF_iff, sameF_iff, sameF_iff]
    constructor
    · intro h
      exact ⟨fun n hn => by simp only [orF]; rw [h n hn]; simp, fun n hn => by simp only [orF]; rw [h n hn]; simp⟩
    · rintro ⟨h1, h2⟩ n hn
      have e1 := h1 n hn
      have e2 := h2 n hn
      simp only [orF] at e1 e2
      revert e1 e2
      cases a n <;> cases b n <;> simp
  rw [hr0] at both
  obtain ⟨x, hx⟩ : ∃ x, sameF (orF a b) b = x := ⟨_, rfl⟩
  obtain ⟨y, hy⟩ : ∃ y, sameF (orF b a) a = y := ⟨_, rfl⟩
  rw [hx, hy] at both
  have HX := Lib.hid hx
  have HY := Lib.hid hy
  have HB0 := Lib.hid both
  clear hx hy both hr0
  go_enter Tryd.func32, Tryd.ntmps32
  go_wp2_with fail
  refine (refSub_is a b x HX.out A c A' c' _ (Kd.C_alloc (Kd.C_alloc HR.out _) _) HC.out (Kd.C_alloc (Kd.C_alloc HR2.out _) _) HC2.out).mono ?_
  rintro e_ w3 ⟨rfl, hb_⟩
  have K2 := blk_below (blk_alloc (heap_alloc_new w (.cells #[.slice A (listF a).length c] 30)) (.cells #[.slice A' (listF b).length c'] 30)) hb_
  have K3 := blk_below (blk_new1 w (.cells #[.slice A (listF a).length c] 30) (.cells #[.slice A' (listF b).length c'] 30)) hb_
  have c2 : w3.cell? ⟨w.heap.size, 0, none⟩ = some (.slice A (listF a).length c) := (blk_cell K2 0).trans rfl
  have c3 : w3.cell? ⟨w.heap.size + 1, 0, none⟩ = some (.slice A' (listF b).length c') := (blk_cell K3 0).trans rfl
  have HB := Lib.hid (below_step (below_alloc (below_alloc (Below.refl _ _) _) _) hb_)
  clear K2 K3 hb_
  cases x with
  | true =>
    go_wp2_with fail
    refine (refSub_is b a y HY.out A' c' A c _ (Kd.C_below HR2.out HB.out) HC2.out (Kd.C_below HR.out HB.out) HC.out).mono ?_
    rintro e_ w4 ⟨rfl, hb_⟩
    have HB4 := Lib.hid (below_step HB.out hb_)
    clear hb_ c2 c3
    go_wp2_with fail
    go_ret
    exact ⟨by rw [HB0.out]; rfl, HB4.out⟩
  | false =>
    go_wp2_with fail
    go_ret
    exact ⟨by rw [HB0.out]; rfl, HB.out⟩
/-! ### Decimal -/
theorem digit_at : ∀ d : Nat, d < 10 → (⟨#[48, 49, 50, 51, 52, 53, 54, 55, 56, 57]⟩ : ByteArray).extract d (d + 1) = ⟨#[UInt8.ofNat (48 + d)]⟩ := by
  intro d hd
  have : ∀ d : Fin 10, (⟨#[48, 49, 50, 51, 52, 53, 54, 55, 56, 57]⟩ : ByteArray).extract d.val (d.val + 1) = ⟨#[UInt8.ofNat (48 + d.val)]⟩ := by decide +kernel
  exact this ⟨d, hd⟩
theorem dec_step (n : Nat) (hn : n < 1000000) (k : Nat) (acc : List UInt8) (ha : acc.length < 1000) (h : 0 < n ∨ acc = []) :
    runnelref1_Decimal.l0 (k + 1) n ⟨acc.toArray⟩ = runnelref1_Decimal.l0 k ((n / 10 : Nat) : Int) ⟨(UInt8.ofNat (48 + n % 10) :: acc).toArray⟩ := by
  have e1 : Int.tmod (n : Int) 10 = ((n % 10 : Nat) : Int) := rfl
  have e2 : wrap64 (((n % 10 : Nat) : Int) + 1) = ((n % 10 + 1 : Nat) : Int) := by unfold wrap64; omega
  have e3 : wrap64 (Int.tdiv (n : Int) 10) = ((n / 10 : Nat) : Int) := by
    have : Int.tdiv (n : Int) 10 = ((n / 10 : Nat) : Int) := rfl
    rw [this]; unfold wrap64; omega
  have e4 := digit_at (n % 10) (by omega)
  have e5 : (⟨#[UInt8.ofNat (48 + n % 10)]⟩ ++ ⟨acc.toArray⟩ : ByteArray) = ⟨(UInt8.ofNat (48 + n % 10) :: acc).toArray⟩ := by
    apply ByteArray.ext
    simp [ByteArray.data_append]
  have e6 : (⟨#[UInt8.ofNat (48 + n % 10)]⟩ : ByteArray).size + (⟨acc.toArray⟩ : ByteArray).size ≤ 9223372036854775807 := by
    simp [ByteArray.size]; omega
  simp only [runnelref1_Decimal.l0]
  rw [e1, e2, e3, Int.toNat_natCast, Int.toNat_natCast, e4, e5, if_pos e6]
  by_cases hp : (n : Int) > 0
  · rw [if_pos hp, if_pos (show (0 : Int) ≤ ((n % 10 : Nat) : Int) by omega), if_pos (show ((n % 10 : Nat) : Int) ≤ ((n % 10 + 1 : Nat) : Int) by omega), if_pos (show ((n % 10 + 1 : Nat) : Int) ≤ 10 by omega)]
  · have hacc : acc = [] := h.resolve_left (by omega)
    subst hacc
    rw [if_neg hp, if_pos (show (⟨([] : List UInt8).toArray⟩ : ByteArray).toList = ([] : List UInt8) from bytes_nil), if_pos (show (0 : Int) ≤ ((n % 10 : Nat) : Int) by omega), if_pos (show ((n % 10 : Nat) : Int) ≤ ((n % 10 + 1 : Nat) : Int) by omega), if_pos (show ((n % 10 + 1 : Nat) : Int) ≤ 10 by omega)]
theorem dec_end (k : Nat) (c : UInt8) (acc : List UInt8) : runnelref1_Decimal.l0 (k + 1) ((0 : Nat) : Int) ⟨(c :: acc).toArray⟩ = some ⟨(c :: acc).toArray⟩ := by
  simp only [runnelref1_Decimal.l0]
  have hne : ¬ (⟨(c :: acc).toArray⟩ : ByteArray).toList = ([] : List UInt8) := bytes_ne _ (by simp [ByteArray.size])
  rw [if_neg (show ¬ (((0 : Nat) : Int) > 0) by omega), if_neg hne]
theorem dec_loop (n : Nat) : ∀ (k : Nat) (acc : List UInt8), n < 1000000 → n < 10 ^ k → acc.length + k < 1000 → (0 < n ∨ acc = []) → runnelref1_Decimal.l0 (k + 2) n ⟨acc.toArray⟩ = some ⟨(Lib.decDigits n ++ acc).toArray⟩ := by
  induction n using Nat.strongRecOn with
  | _ n ih =>
    intro k acc hn hk ha h
    rw [dec_step n hn (k + 1) acc (by omega) h]
    by_cases h10 : n < 10
    · have e : n / 10 = 0 := by omega
      rw [e, dec_end, Lib.decDigits_one h10, show n % 10 = n by omega]
      rfl
    · obtain ⟨k, rfl⟩ : ∃ t, k = t + 1 := ⟨k - 1, by
        rcases Nat.eq_zero_or_pos k with h0 | h0
        · subst h0; simp at hk; omega
        · omega⟩
      rw [ih (n / 10) (by omega) k _ (by omega) (by rw [Nat.pow_succ] at hk; omega) (by rw [List.length_cons]; omega) (.inl (by omega))]
      rw [show Lib.decDigits n = Lib.decDigits (n / 10) ++ [UInt8.ofNat (48 + n % 10)] by rw [Lib.decDigits, dif_neg h10], List.append_assoc]
      rfl
theorem decimal_any (n : Nat) (hn : n < 4096) (w : World) : Calls Tryd.prog 40 #[.int .i64 n] w fun e w' => e = .returned (.string ⟨(Lib.itoa (n : Int)).toArray⟩) ∧ Below w.heap.size w w' :=
  (runnelref1_Decimal.calls 6 n _ w (by
    unfold runnelref1_Decimal.f
    have := dec_loop n 4 [] (by omega) (by omega) (by simp) (.inr rfl)
    rw [List.append_nil] at this
    rw [itoa_nat]
    exact this)).mono fun _ _ hh => ⟨hh.1, hh.2.below⟩
end Go.Proofs.YtjcppnleoahaiaaDoor.P
