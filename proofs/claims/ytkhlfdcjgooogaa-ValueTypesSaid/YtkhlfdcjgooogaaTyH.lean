import Derived.Test.YtkhlfdcjgooogaaTyE
set_option linter.unusedVariables false
set_option linter.unusedSimpArgs false
namespace Go.Proofs.Ytkhlfdcjgooogaa.P
open Go.RowKit Go.Proofs.YtkhlfdcjgooogaaW.PrintWords Go.Proofs.YtkhlfdcjgooogaaW.PrintLast Go.Proofs.YtkhlfdcjgooogaaW.PrintMore
def allF (ns : List S101) (ol : List Int) (kind : Int) (l : List Int) : Bool := l.all (fun k => exprF ns ol k == kind)
set_option maxRecDepth 100000 in
set_option maxHeartbeats 8000000 in
theorem all1_is (b1 b2 p : Nat) (At : Option Addr) (ct : Nat) (ns : List S101) (root : Int) (ol : List Int) (kind q : Int) (h0 : 0 ≤ q) (h1 : q < ns.length) (w : World) (hS : Sc p At ct ns root ol w)
  (c1 : w.cell? ⟨b1, 0, none⟩ = some (.pointer (some ⟨p, 0, none⟩))) (c2 : w.cell? ⟨b2, 0, none⟩ = some (.int .i64 kind)) :
  Calls Try.prog 101 #[.int .i64 q, .pointer (some ⟨b1, 0, none⟩), .pointer (some ⟨b2, 0, none⟩)] w fun e w' => e = .returned (.bool (!(exprF ns ol q == kind))) ∧ Below w.heap.size w w' := by
 have HE := Lib.hid (expr_is p At ct ns root ol q h0 h1 w.drew (hS.below (below_drew (Below.refl _ _))))
 clear hS
 obtain ⟨t, ht⟩ : ∃ t, t = exprF ns ol q := ⟨_, rfl⟩
 rw [← ht] at HE ⊢
 clear ht
 go_enter Try.func101, Try.ntmps101
 go_wp2_with fail
 refine start_ (n := 6) (S := fun w' => w'.cell? ⟨b1, 0, none⟩ = some (.pointer (some ⟨p, 0, none⟩)) ∧ w'.cell? ⟨b2, 0, none⟩ = some (.int .i64 kind)) (ds := []) #[false, false, false, false, false, false] (by kernel_rfl) rfl rfl ⟨cel_drew c1, cel_drew c2⟩ (fun hHeld => ?_)
 refine pure_ (i := 1) (N := some 6) (v := ?_) (a' := ?_) #[false, true, false, false, false, false] rfl rfl (by kernel_rfl) (fun _ _ _ h => h) (Or.inl ⟨by rfl, ?_⟩) ?_ ?_
 rotate_left
 ·intro w'
  go_simp
  with_reducible rfl
 rotate_left
 ·simp only [Act.put, List.setIfInBounds_toArray, List.set_cons_zero, List.set_cons_succ, i64_w, i32_w]
  rfl
 refine take_ (i := 0) (N := some 5) (v := ?_) (a' := ?_) #[true, true, false, false, false, false] rfl rfl (by kernel_rfl) (fun _ _ _ h => h) (Or.inl ⟨by rfl, ?_⟩) hHeld ?_ ?_
 rotate_left
 ·rintro w' ⟨s0, s1⟩
  go_simp
  with_reducible rfl
 rotate_left
 ·simp only [Act.put, List.setIfInBounds_toArray, List.set_cons_zero, List.set_cons_succ, i64_w, i32_w]
  rfl
 refine take_ (i := 3) (N := some 8) (v := ?_) (a' := ?_) #[true, true, false, true, false, false] rfl rfl (by kernel_rfl) (fun _ _ _ h => h) (Or.inl ⟨by rfl, ?_⟩) hHeld ?_ ?_
 rotate_left
 ·rintro w' ⟨s0, s1⟩
  go_simp
  with_reducible rfl
 rotate_left
 ·simp only [Act.put, List.setIfInBounds_toArray, List.set_cons_zero, List.set_cons_succ, i64_w, i32_w]
  rfl
 refine one_ (i := 2) (N := some 7) #[true, true, true, true, false, false] rfl rfl (by kernel_rfl) (by decide) (fun K hK => ?_)
 refine goes_ Try.func56 (by kernel_rfl) rfl #[.pointer (some ⟨p, 0, none⟩), .int .i64 q] (by rfl) rfl rfl (by simp only [List.map_toArray, List.map_cons, List.map_nil]; rfl) ?_
 with_reducible refine HE.out.mono ?_
 rintro e_ w6 ⟨rfl, hb_⟩
 refine ⟨_, rfl, ?_⟩
 have HB6 : Hid (Below w.heap.size w w6) := Lib.hid (below_step (below_drew (Below.refl _ _)) hb_)
 have x0 := pw_cell_below hb_ (cel_drew c1)
 have x1 := pw_cell_below hb_ (cel_drew c2)
 clear hb_
 refine hK.out _ _ ⟨x0, x1⟩ (fun hHeld => ?_)
 clear hK K
 refine norm_ (a' := ?_) ?_ ?_
 rotate_left
 ·show Act.put _ (some 7) _ = _
  simp only [Act.put, List.setIfInBounds_toArray, List.set_cons_zero, List.set_cons_succ, i64_w, i32_w]
  rfl
 refine pure_ (i := 4) (N := some 9) (v := ?_) (a' := ?_) #[true, true, true, true, true, false] rfl rfl (by kernel_rfl) (fun _ _ _ h => h) (Or.inl ⟨by rfl, ?_⟩) ?_ ?_
 rotate_left
 ·intro w'
  go_simp
  with_reducible rfl
 rotate_left
 ·simp only [Act.put, List.setIfInBounds_toArray, List.set_cons_zero, List.set_cons_succ, i64_w, i32_w]
  rfl
 refine pure_ (i := 5) (N := some 4) (v := ?_) (a' := ?_) #[true, true, true, true, true, true] rfl rfl (by kernel_rfl) (fun _ _ _ h => h) (Or.inl ⟨by rfl, ?_⟩) ?_ ?_
 rotate_left
 ·intro w'
  go_simp
  with_reducible rfl
 rotate_left
 ·simp only [Act.put, List.setIfInBounds_toArray, List.set_cons_zero, List.set_cons_succ, i64_w, i32_w]
  rfl
 refine done_ (by kernel_rfl) ?_
 go_wp2_with fail
 go_ret
 exact ⟨rfl, HB6.out⟩
set_option maxRecDepth 100000 in
set_option maxHeartbeats 8000000 in
theorem allFind_is (b1 b2 p : Nat) (At : Option Addr) (ct : Nat) (ns : List S101) (root : Int) (ol : List Int) (kind : Int) (A : Option Addr) (c : Nat) (kl : List Int) (hk : ∀ k ∈ kl, 0 ≤ k ∧ k < ns.length) (hl : kl.length ≤ 4000) (w : World) (hS : Sc p At ct ns root ol w)
  (hC : Kd.C (Kd.int .i64) w A kl.length kl) (hc : kl.length ≤ c) (c1 : w.heap[b1]? = some (.cells #[.pointer (some ⟨p, 0, none⟩)] 102 (0, 0))) (c2 : w.heap[b2]? = some (.cells #[.int .i64 kind] 3 (0, 0))) :
  Calls Try.prog 112 #[.slice A kl.length c, .func (.func 101) #[] #[.pointer (some ⟨b1, 0, none⟩), .pointer (some ⟨b2, 0, none⟩)]] w fun e w' => ∃ v : Int, e = .returned (.int .i64 v) ∧ Hid (decide (0 ≤ v) = !(allF ns ol kind kl)) ∧ Below w.heap.size w w' := by
 have HS := Lib.hid hS
 have HK := Lib.hid hk
 have HC := Lib.hid hC
 have H1 := Lib.hid c1
 have H2 := Lib.hid c2
 clear hS hk hC c1 c2
 go_enter Try.func112, Try.ntmps112
 go_wp2_with fail
 go_loopg [8] (kl.length + 1) (fun kq v8 W => ∃ i : Nat, v8 = .int .i64 i ∧ i ≤ kl.length ∧ Hid (i + kq = kl.length + 1) ∧ Hid (allF ns ol kind (kl.take i) = true) ∧ Hid (Below w.heap.size w W))
 case atStart => exact ⟨0, rfl, Nat.zero_le _, Lib.hid (by omega), Lib.hid rfl, Lib.hid (Below.refl _ _)⟩
 case round =>
  obtain ⟨i, rfl, hi, HN, HA, HB⟩ := hrel
  by_cases hlt : i < kl.length
  ·obtain ⟨adK, eK, y0⟩ := Kd.at_int (Kd.C_below HC.out HB.out) (i : Int) (by omega) (by omega)
   have hq : rd kl (i : Int) = kl[i] := by simp [rd, hlt]
   rw [hq, Int.toNat_natCast] at y0
   have hin := HK.out kl[i] (List.getElem_mem hlt)
   have hmem : kl[i] ∈ kl := List.getElem_mem hlt
   have htk : kl.take (i + 1) = kl.take i ++ [kl[i]] := List.take_succ_eq_append_getElem hlt
   obtain ⟨kv, hkv⟩ : ∃ kv, kv = kl[i] := ⟨_, rfl⟩
   rw [← hkv] at y0 hin htk hmem
   clear hq hkv
   have HX := Lib.hid (all1_is b1 b2 p At ct ns root ol kind kv hin.1 hin.2 wr (HS.out.below HB.out) ((blk_cell (blk_below H1.out HB.out) 0).trans rfl) ((blk_cell (blk_below H2.out HB.out) 0).trans rfl))
   have HTK := Lib.hid htk
   have HM := Lib.hid hmem
   clear hin htk hmem
   cases eK
   cases hok : exprF ns ol kv == kind with
   | true =>
    rw [hok] at HX
    have HOK := Lib.hid hok
    clear hok
    go_wp2_with fail
    refine HX.out.mono ?_
    rintro e_ W2 ⟨rfl, hb_⟩
    have HB2 := Lib.hid (below_step HB.out hb_)
    clear hb_
    go_wp2_with fail
    go_roundg (gk - 1)
    case measure => have := HN.out; omega
    case rel => exact ⟨i + 1, by norm_cast, hlt, Lib.hid (by have := HN.out; omega), Lib.hid (by rw [HTK.out, allF, List.all_append, show List.all (kl.take i) _ = true from HA.out]; simp [HOK.out]), HB2⟩
   | false =>
    rw [hok] at HX
    have HOK := Lib.hid hok
    clear hok
    go_wp2_with fail
    refine HX.out.mono ?_
    rintro e_ W2 ⟨rfl, hb_⟩
    have HB2 := Lib.hid (below_step HB.out hb_)
    clear hb_
    go_wp2_with fail
    go_ret
    refine ⟨i, rfl, Lib.hid ?_, HB2.out⟩
    have h1 : allF ns ol kind kl = false := by
     unfold allF
     rw [List.all_eq_false]
     exact ⟨_, HM.out, by rw [HOK.out]; simp⟩
    rw [h1]
    simp
  ·obtain rfl : i = kl.length := by omega
   have hall := HA.out
   rw [List.take_length] at hall
   have HALL := Lib.hid hall
   clear hall
   go_wp2_with fail
   go_ret
   exact ⟨-1, rfl, Lib.hid (by rw [HALL.out]; rfl), HB.out⟩
set_option maxRecDepth 100000 in
theorem allAny_is (b1 b2 p : Nat) (At : Option Addr) (ct : Nat) (ns : List S101) (root : Int) (ol : List Int) (kind : Int) (A : Option Addr) (c : Nat) (kl : List Int) (hk : ∀ k ∈ kl, 0 ≤ k ∧ k < ns.length) (hl : kl.length ≤ 4000) (w : World) (hS : Sc p At ct ns root ol w)
  (hC : Kd.C (Kd.int .i64) w A kl.length kl) (hc : kl.length ≤ c) (c1 : w.heap[b1]? = some (.cells #[.pointer (some ⟨p, 0, none⟩)] 102 (0, 0))) (c2 : w.heap[b2]? = some (.cells #[.int .i64 kind] 3 (0, 0))) :
  Calls Try.prog 100 #[.slice A kl.length c, .func (.func 101) #[] #[.pointer (some ⟨b1, 0, none⟩), .pointer (some ⟨b2, 0, none⟩)]] w fun e w' => e = .returned (.bool (!(allF ns ol kind kl))) ∧ Below w.heap.size w w' := by
 have HX := Lib.hid (allFind_is b1 b2 p At ct ns root ol kind A c kl hk hl w hS hC hc c1 c2)
 obtain ⟨r, hr⟩ : ∃ r, r = !(allF ns ol kind kl) := ⟨_, rfl⟩
 rw [← hr]
 rw [← hr] at HX
 clear hS hk hC c1 c2 hr
 go_enter Try.func100, Try.ntmps100
 go_wp2_with fail
 refine HX.out.mono ?_
 rintro e_ w1 ⟨v, rfl, HV, hb_⟩
 have HB := Lib.hid hb_
 clear hb_
 have t1 : decide (0 ≤ v) = r := HV.out
 go_wp2_with fail
 go_ret
 exact ⟨rfl, HB.out⟩
set_option maxRecDepth 100000 in
set_option maxHeartbeats 8000000 in
theorem all_is (p : Nat) (At : Option Addr) (ct : Nat) (ns : List S101) (root : Int) (ol : List Int) (kind : Int) (A : Option Addr) (c : Nat) (kl : List Int) (hk : ∀ k ∈ kl, 0 ≤ k ∧ k < ns.length) (hl : kl.length ≤ 4000) (w : World) (hS : Sc p At ct ns root ol w)
  (hC : Kd.C (Kd.int .i64) w A kl.length kl) (hc : kl.length ≤ c) :
  Calls Try.prog 79 #[.pointer (some ⟨p, 0, none⟩), .slice A kl.length c, .int .i64 kind] w fun e w' => e = .returned (.bool (allF ns ol kind kl)) ∧ Below w.heap.size w w' := by
 have hmf : ∀ (fn : Fn) (first cap : Array Value) (w : World), (Instr.makeFunc fn first cap).run Try.prog w = .ok (.func fn first cap) w := fun _ _ _ _ => rfl
 have HX := Lib.hid (fun b1 b2 (w' : World) (hb : Below w.heap.size w w') => allAny_is b1 b2 p At ct ns root ol kind A c kl hk hl w' (hS.below hb) (Kd.C_below hC hb) hc)
 obtain ⟨r, hr⟩ : ∃ r, r = allF ns ol kind kl := ⟨_, rfl⟩
 rw [← hr]
 rw [← hr] at HX
 clear hS hk hC hr
 go_enter Try.func79, Try.ntmps79
 go_wp2_with fail
 have hb0 : Below w.heap.size w ((w.alloc (.cells #[.pointer (some ⟨p, 0, none⟩)] 102)).alloc (.cells #[.int .i64 kind] 3)) := below_alloc (below_alloc (Below.refl _ _) _) _
 have x1 := blk_alloc (heap_alloc_new w (.cells #[.pointer (some ⟨p, 0, none⟩)] 102)) (.cells #[.int .i64 kind] 3)
 have x2 := heap_alloc_new (w.alloc (.cells #[.pointer (some ⟨p, 0, none⟩)] 102)) (.cells #[.int .i64 kind] 3)
 have x2' : ((w.alloc (.cells #[.pointer (some ⟨p, 0, none⟩)] 102)).alloc (.cells #[.int .i64 kind] 3)).heap[w.heap.size + 1]? = some (.cells #[.int .i64 kind] 3 (0, 0)) := by simpa using x2
 refine (HX.out w.heap.size (w.heap.size + 1) _ hb0 x1 x2').mono ?_
 rintro e_ w1 ⟨rfl, hb_⟩
 have HB1 := Lib.hid (below_step hb0 hb_)
 clear hb_ x1 x2 x2' hb0
 cases r
 ·go_wp2_with fail
  go_ret
  exact ⟨rfl, HB1.out⟩
 ·go_wp2_with fail
  go_ret
  exact ⟨rfl, HB1.out⟩
def namedF (ns : List S101) (ol : List Int) (q : Int) (r : Bool) : Int := if meansF ns ol q (nmOf ns q) = -1 then 3 else if r = true then 0 else 5
theorem means_at (p : Nat) (At : Option Addr) (ct : Nat) (ns : List S101) (root : Int) (ol : List Int) (q : Int) (h0 : 0 ≤ q) (h1 : q < ns.length) (w : World) (hS : Sc p At ct ns root ol w) :
  Calls Try.prog 87 #[.pointer (some ⟨p, 0, none⟩), .int .i64 q, .string (rd_T101 ns q).f3] w fun e w' => e = .returned (.int .i64 (meansF ns ol q (nmOf ns q))) ∧ Below w.heap.size w w' :=
 means_is p At ct ns root ol q h0 h1 _ (KidsIn.size hS h0 h1) w hS
theorem kind_at (p : Nat) (At : Option Addr) (ct : Nat) (ns : List S101) (root : Int) (ol : List Int) (q : Int) (h0 : 0 ≤ q) (h1 : q < ns.length) (w : World) (hS : Sc p At ct ns root ol w) :
  Calls Try.prog 84 #[.pointer (some ⟨p, 0, none⟩), .int .i64 q, .string (rd_T101 ns q).f3] w fun e w' => e = .returned (.int .i64 (kindF ns ol q (nmOf ns q))) ∧ Below w.heap.size w w' :=
 kind_is p At ct ns root ol q h0 h1 _ (KidsIn.size hS h0 h1) w hS
set_option maxRecDepth 100000 in
set_option maxHeartbeats 8000000 in
theorem named_any (p : Nat) (At : Option Addr) (ct : Nat) (ns : List S101) (root : Int) (ol : List Int) (q : Int) (h0 : 0 ≤ q) (h1 : q < ns.length) (r : Bool) (w : World) (hS : Sc p At ct ns root ol w)
  (hF : ∀ w', Below w.heap.size w w' → Calls Try.prog 77 #[.int .i64 (kindF ns ol q (nmOf ns q))] w' fun e w'' => e = .returned (.bool r) ∧ Below w'.heap.size w' w'') :
  Calls Try.prog 76 #[.pointer (some ⟨p, 0, none⟩), .int .i64 q, .func (.func 77) #[] #[]] w fun e w' => e = .returned (.int .i64 (namedF ns ol q r)) ∧ Below w.heap.size w w' := by
 have HF := Lib.hid hF
 have HM := Lib.hid (fun (w' : World) (hb : Below w.heap.size w w') => means_at p At ct ns root ol q h0 h1 w' (hS.below hb))
 have HK := Lib.hid (fun (w' : World) (hb : Below w.heap.size w w') => kind_at p At ct ns root ol q h0 h1 w' (hS.below hb))
 unfold namedF
 obtain ⟨m, hm⟩ : ∃ m, m = meansF ns ol q (nmOf ns q) := ⟨_, rfl⟩
 obtain ⟨k, hk⟩ : ∃ k, k = kindF ns ol q (nmOf ns q) := ⟨_, rfl⟩
 rw [← hm] at HM ⊢
 rw [← hk] at HK HF
 obtain ⟨R, hR⟩ : ∃ R : Int, R = if m = -1 then 3 else if r = true then 0 else 5 := ⟨_, rfl⟩
 rw [← hR]
 have HR := Lib.hid hR
 obtain ⟨bo, g, r0, l, Lb, h⟩ := hS
 have c0 : w.cell? ⟨p, 0, none⟩ = some (.slice At ns.length ct) := (blk_cell h.hp 0).trans rfl
 obtain ⟨ad, A4, c4, eA, z0, z1, z2, z3, z4, l4, g4⟩ := at_T101 h.hC q h0 h1
 have e0 := eq_true h0
 have e1 := eq_true h1
 obtain ⟨x, hx⟩ : ∃ x, x = rd_T101 ns q := ⟨_, rfl⟩
 rw [← hx] at z0 z1 z2 z3 z4 HM HK
 obtain ⟨kd, n, at_, tx, kl⟩ := x
 dsimp only at z0 z1 z2 z3 z4 HM HK
 cases eA
 clear h hm hk hx hF hR l4 g4
 go_enter Try.func76, Try.ntmps76
 go_wp2_with fail
 have hb0 : Below w.heap.size w (w.alloc (.cells #[.int .i64 kd, .int .i64 n, .int .i64 at_, .string tx, .slice A4 kl.length c4] 101)) := below_alloc (Below.refl _ _) _
 have x0 := heap_alloc_new w (.cells #[.int .i64 kd, .int .i64 n, .int .i64 at_, .string tx, .slice A4 kl.length c4] 101)
 obtain ⟨W0, hW0⟩ : ∃ W0, W0 = w.alloc (.cells #[.int .i64 kd, .int .i64 n, .int .i64 at_, .string tx, .slice A4 kl.length c4] 101) := ⟨_, rfl⟩
 rw [← hW0] at hb0 x0 ⊢
 have HB0 := Lib.hid hb0
 have X0 := Lib.hid x0
 clear hW0 hb0 x0 z0 z1 z2 z3 z4 c0
 refine (HM.out W0 HB0.out).mono ?_
 rintro e_ W1 ⟨rfl, hb_⟩
 have HB1 := Lib.hid (below_step HB0.out hb_)
 have c3 : W1.cell? ⟨w.heap.size, 3, none⟩ = some (.string tx) := (blk_cell (blk_below X0.out hb_) 3).trans rfl
 clear hb_
 by_cases hm : m = -1
 ·subst hm
  have hR := HR.out
  rw [if_pos rfl] at hR
  subst hR
  go_wp2_with fail
  go_ret
  exact ⟨rfl, HB1.out⟩
 ·have hR := HR.out
  rw [if_neg hm] at hR
  have HR' := Lib.hid hR
  clear hR HR
  go_wp2_with fail
  refine (HK.out W1 HB1.out).mono ?_
  rintro e_ W2 ⟨rfl, hb_⟩
  have HB2 := Lib.hid (below_step HB1.out hb_)
  clear hb_ c3
  go_wp2_with fail
  refine (HF.out W2 HB2.out).mono ?_
  rintro e_ W3 ⟨rfl, hb_⟩
  have HB3 := Lib.hid (below_step HB2.out hb_)
  clear hb_
  go_wp2_with fail
  refine (told_is r W3).mono ?_
  rintro e_ w_ ⟨he_, rfl⟩
  rw [← HR'.out] at he_
  subst he_
  go_wp2_with fail
  go_ret
  exact ⟨rfl, HB3.out⟩
set_option maxRecDepth 100000 in
set_option maxHeartbeats 8000000 in
theorem named_is (p : Nat) (At : Option Addr) (ct : Nat) (ns : List S101) (root : Int) (ol : List Int) (q : Int) (h0 : 0 ≤ q) (h1 : q < ns.length) (b1 : Nat) (r : Bool) (w : World) (hS : Sc p At ct ns root ol w)
  (hF : ∀ w', Below w.heap.size w w' → Calls Try.prog 74 #[.int .i64 (kindF ns ol q (nmOf ns q)), .pointer (some ⟨b1, 0, none⟩)] w' fun e w'' => e = .returned (.bool r) ∧ Below w'.heap.size w' w'') :
  Calls Try.prog 76 #[.pointer (some ⟨p, 0, none⟩), .int .i64 q, .func (.func 74) #[] #[.pointer (some ⟨b1, 0, none⟩)]] w fun e w' => e = .returned (.int .i64 (namedF ns ol q r)) ∧ Below w.heap.size w w' := by
 have HF := Lib.hid hF
 have HM := Lib.hid (fun (w' : World) (hb : Below w.heap.size w w') => means_at p At ct ns root ol q h0 h1 w' (hS.below hb))
 have HK := Lib.hid (fun (w' : World) (hb : Below w.heap.size w w') => kind_at p At ct ns root ol q h0 h1 w' (hS.below hb))
 unfold namedF
 obtain ⟨m, hm⟩ : ∃ m, m = meansF ns ol q (nmOf ns q) := ⟨_, rfl⟩
 obtain ⟨k, hk⟩ : ∃ k, k = kindF ns ol q (nmOf ns q) := ⟨_, rfl⟩
 rw [← hm] at HM ⊢
 rw [← hk] at HK HF
 obtain ⟨R, hR⟩ : ∃ R : Int, R = if m = -1 then 3 else if r = true then 0 else 5 := ⟨_, rfl⟩
 rw [← hR]
 have HR := Lib.hid hR
 obtain ⟨bo, g, r0, l, Lb, h⟩ := hS
 have c0 : w.cell? ⟨p, 0, none⟩ = some (.slice At ns.length ct) := (blk_cell h.hp 0).trans rfl
 obtain ⟨ad, A4, c4, eA, z0, z1, z2, z3, z4, l4, g4⟩ := at_T101 h.hC q h0 h1
 have e0 := eq_true h0
 have e1 := eq_true h1
 obtain ⟨x, hx⟩ : ∃ x, x = rd_T101 ns q := ⟨_, rfl⟩
 rw [← hx] at z0 z1 z2 z3 z4 HM HK
 obtain ⟨kd, n, at_, tx, kl⟩ := x
 dsimp only at z0 z1 z2 z3 z4 HM HK
 cases eA
 clear h hm hk hx hF hR l4 g4
 go_enter Try.func76, Try.ntmps76
 go_wp2_with fail
 have hb0 : Below w.heap.size w (w.alloc (.cells #[.int .i64 kd, .int .i64 n, .int .i64 at_, .string tx, .slice A4 kl.length c4] 101)) := below_alloc (Below.refl _ _) _
 have x0 := heap_alloc_new w (.cells #[.int .i64 kd, .int .i64 n, .int .i64 at_, .string tx, .slice A4 kl.length c4] 101)
 obtain ⟨W0, hW0⟩ : ∃ W0, W0 = w.alloc (.cells #[.int .i64 kd, .int .i64 n, .int .i64 at_, .string tx, .slice A4 kl.length c4] 101) := ⟨_, rfl⟩
 rw [← hW0] at hb0 x0 ⊢
 have HB0 := Lib.hid hb0
 have X0 := Lib.hid x0
 clear hW0 hb0 x0 z0 z1 z2 z3 z4 c0
 refine (HM.out W0 HB0.out).mono ?_
 rintro e_ W1 ⟨rfl, hb_⟩
 have HB1 := Lib.hid (below_step HB0.out hb_)
 have c3 : W1.cell? ⟨w.heap.size, 3, none⟩ = some (.string tx) := (blk_cell (blk_below X0.out hb_) 3).trans rfl
 clear hb_
 by_cases hm : m = -1
 ·subst hm
  have hR := HR.out
  rw [if_pos rfl] at hR
  subst hR
  go_wp2_with fail
  go_ret
  exact ⟨rfl, HB1.out⟩
 ·have hR := HR.out
  rw [if_neg hm] at hR
  have HR' := Lib.hid hR
  clear hR HR
  go_wp2_with fail
  refine (HK.out W1 HB1.out).mono ?_
  rintro e_ W2 ⟨rfl, hb_⟩
  have HB2 := Lib.hid (below_step HB1.out hb_)
  clear hb_ c3
  go_wp2_with fail
  refine (HF.out W2 HB2.out).mono ?_
  rintro e_ W3 ⟨rfl, hb_⟩
  have HB3 := Lib.hid (below_step HB2.out hb_)
  clear hb_
  go_wp2_with fail
  refine (told_is r W3).mono ?_
  rintro e_ w_ ⟨he_, rfl⟩
  rw [← HR'.out] at he_
  subst he_
  go_wp2_with fail
  go_ret
  exact ⟨rfl, HB3.out⟩
set_option maxRecDepth 100000 in
set_option maxHeartbeats 8000000 in
theorem named_arr (p : Nat) (At : Option Addr) (ct : Nat) (ns : List S101) (root : Int) (ol : List Int) (q : Int) (h0 : 0 ≤ q) (h1 : q < ns.length) (b1 b2 : Nat) (r : Bool) (w : World) (hS : Sc p At ct ns root ol w)
  (hF : ∀ w', Below w.heap.size w w' → Calls Try.prog 78 #[.int .i64 (kindF ns ol q (nmOf ns q)), .pointer (some ⟨b1, 0, none⟩), .pointer (some ⟨b2, 0, none⟩)] w' fun e w'' => e = .returned (.bool r) ∧ Below w'.heap.size w' w'') :
  Calls Try.prog 76 #[.pointer (some ⟨p, 0, none⟩), .int .i64 q, .func (.func 78) #[] #[.pointer (some ⟨b1, 0, none⟩), .pointer (some ⟨b2, 0, none⟩)]] w fun e w' => e = .returned (.int .i64 (namedF ns ol q r)) ∧ Below w.heap.size w w' := by
 have HF := Lib.hid hF
 have HM := Lib.hid (fun (w' : World) (hb : Below w.heap.size w w') => means_at p At ct ns root ol q h0 h1 w' (hS.below hb))
 have HK := Lib.hid (fun (w' : World) (hb : Below w.heap.size w w') => kind_at p At ct ns root ol q h0 h1 w' (hS.below hb))
 unfold namedF
 obtain ⟨m, hm⟩ : ∃ m, m = meansF ns ol q (nmOf ns q) := ⟨_, rfl⟩
 obtain ⟨k, hk⟩ : ∃ k, k = kindF ns ol q (nmOf ns q) := ⟨_, rfl⟩
 rw [← hm] at HM ⊢
 rw [← hk] at HK HF
 obtain ⟨R, hR⟩ : ∃ R : Int, R = if m = -1 then 3 else if r = true then 0 else 5 := ⟨_, rfl⟩
 rw [← hR]
 have HR := Lib.hid hR
 obtain ⟨bo, g, r0, l, Lb, h⟩ := hS
 have c0 : w.cell? ⟨p, 0, none⟩ = some (.slice At ns.length ct) := (blk_cell h.hp 0).trans rfl
 obtain ⟨ad, A4, c4, eA, z0, z1, z2, z3, z4, l4, g4⟩ := at_T101 h.hC q h0 h1
 have e0 := eq_true h0
 have e1 := eq_true h1
 obtain ⟨x, hx⟩ : ∃ x, x = rd_T101 ns q := ⟨_, rfl⟩
 rw [← hx] at z0 z1 z2 z3 z4 HM HK
 obtain ⟨kd, n, at_, tx, kl⟩ := x
 dsimp only at z0 z1 z2 z3 z4 HM HK
 cases eA
 clear h hm hk hx hF hR l4 g4
 go_enter Try.func76, Try.ntmps76
 go_wp2_with fail
 have hb0 : Below w.heap.size w (w.alloc (.cells #[.int .i64 kd, .int .i64 n, .int .i64 at_, .string tx, .slice A4 kl.length c4] 101)) := below_alloc (Below.refl _ _) _
 have x0 := heap_alloc_new w (.cells #[.int .i64 kd, .int .i64 n, .int .i64 at_, .string tx, .slice A4 kl.length c4] 101)
 obtain ⟨W0, hW0⟩ : ∃ W0, W0 = w.alloc (.cells #[.int .i64 kd, .int .i64 n, .int .i64 at_, .string tx, .slice A4 kl.length c4] 101) := ⟨_, rfl⟩
 rw [← hW0] at hb0 x0 ⊢
 have HB0 := Lib.hid hb0
 have X0 := Lib.hid x0
 clear hW0 hb0 x0 z0 z1 z2 z3 z4 c0
 refine (HM.out W0 HB0.out).mono ?_
 rintro e_ W1 ⟨rfl, hb_⟩
 have HB1 := Lib.hid (below_step HB0.out hb_)
 have c3 : W1.cell? ⟨w.heap.size, 3, none⟩ = some (.string tx) := (blk_cell (blk_below X0.out hb_) 3).trans rfl
 clear hb_
 by_cases hm : m = -1
 ·subst hm
  have hR := HR.out
  rw [if_pos rfl] at hR
  subst hR
  go_wp2_with fail
  go_ret
  exact ⟨rfl, HB1.out⟩
 ·have hR := HR.out
  rw [if_neg hm] at hR
  have HR' := Lib.hid hR
  clear hR HR
  go_wp2_with fail
  refine (HK.out W1 HB1.out).mono ?_
  rintro e_ W2 ⟨rfl, hb_⟩
  have HB2 := Lib.hid (below_step HB1.out hb_)
  clear hb_ c3
  go_wp2_with fail
  refine (HF.out W2 HB2.out).mono ?_
  rintro e_ W3 ⟨rfl, hb_⟩
  have HB3 := Lib.hid (below_step HB2.out hb_)
  clear hb_
  go_wp2_with fail
  refine (told_is r W3).mono ?_
  rintro e_ w_ ⟨he_, rfl⟩
  rw [← HR'.out] at he_
  subst he_
  go_wp2_with fail
  go_ret
  exact ⟨rfl, HB3.out⟩
set_option maxRecDepth 100000 in
theorem tis_calls (kind x : Int) (b : Nat) (w : World) (h : w.cell? ⟨b, 0, none⟩ = some (.int .i64 kind)) :
  Calls Try.prog 74 #[.int .i64 x, .pointer (some ⟨b, 0, none⟩)] w fun e w' => e = .returned (.bool (x == kind)) ∧ Below w.heap.size w w' := by
 go_enter Try.func74, Try.ntmps74
 go_wp2_with fail
 go_ret
 exact ⟨rfl, Below.refl _ _⟩
set_option maxRecDepth 100000 in
theorem tis_new (kind : Int) (w : World) : Calls Try.prog 73 #[.int .i64 kind] w fun e w' => e = .returned (.func (.func 74) #[] #[.pointer (some ⟨w.heap.size, 0, none⟩)]) ∧ w' = w.alloc (.cells #[.int .i64 kind] 3) := by
 have hmf : ∀ (fn : Fn) (first cap : Array Value) (w : World), (Instr.makeFunc fn first cap).run Try.prog w = .ok (.func fn first cap) w := fun _ _ _ _ => rfl
 go_enter Try.func73, Try.ntmps73
 go_wp2_with fail
 go_ret
 exact ⟨rfl, rfl⟩
set_option maxRecDepth 100000 in
theorem tany_calls (x : Int) (w : World) : Calls Try.prog 77 #[.int .i64 x] w fun e w' => e = .returned (.bool true) ∧ Below w.heap.size w w' := by
 go_enter Try.func77, Try.ntmps77
 go_wp2_with fail
 go_ret
 exact ⟨rfl, Below.refl _ _⟩
set_option maxRecDepth 100000 in
set_option maxHeartbeats 8000000 in
theorem tarr_calls (b1 b2 p : Nat) (At : Option Addr) (ct : Nat) (ns : List S101) (root : Int) (ol : List Int) (x : Int) (A : Option Addr) (c : Nat) (kl : List Int) (hk : ∀ k ∈ kl, 0 ≤ k ∧ k < ns.length) (hl : kl.length ≤ 4000) (w : World) (hS : Sc p At ct ns root ol w)
  (hC : Kd.C (Kd.int .i64) w A kl.length kl) (hc : kl.length ≤ c) (c1 : w.cell? ⟨b1, 0, none⟩ = some (.pointer (some ⟨p, 0, none⟩))) (c2 : w.cell? ⟨b2, 4, none⟩ = some (.slice A kl.length c)) :
  Calls Try.prog 78 #[.int .i64 x, .pointer (some ⟨b1, 0, none⟩), .pointer (some ⟨b2, 0, none⟩)] w fun e w' => e = .returned (.bool (x == 3 && allF ns ol 1 kl)) ∧ Below w.heap.size w w' := by
 have HA := Lib.hid (fun (w' : World) (hb : Below w.heap.size w w') => all_is p At ct ns root ol 1 A c kl hk hl w' (hS.below hb) (Kd.C_below hC hb) hc)
 obtain ⟨r, hr⟩ : ∃ r, r = allF ns ol 1 kl := ⟨_, rfl⟩
 rw [← hr] at HA ⊢
 clear hS hk hC hr
 by_cases hx : x = 3
 ·subst hx
  go_enter Try.func78, Try.ntmps78
  go_wp2_with fail
  refine (HA.out _ (Below.refl _ _)).mono ?_
  rintro e_ W1 ⟨rfl, hb_⟩
  have HB1 := Lib.hid hb_
  clear hb_
  go_wp2_with fail
  go_ret
  exact ⟨rfl, HB1.out⟩
 ·have hx1 : (x == 3) = false := by simpa using hx
  rw [hx1, Bool.false_and]
  go_enter Try.func78, Try.ntmps78
  go_wp2_with fail
  go_ret
  exact ⟨rfl, Below.refl _ _⟩
def boolB (s : Nm) : Bool := s == [33] || s == [38, 38] || s == [124, 124]
def eqB (s : Nm) : Bool := s == [61, 61] || s == [33, 61]
def operandsF (ns : List S101) (ol : List Int) (s : Nm) (kl : List Int) : Bool :=
 if boolB s = true then allF ns ol 2 kl else if eqB s = true then allF ns ol 1 kl || allF ns ol 2 kl else allF ns ol 1 kl
set_option maxRecDepth 100000 in
set_option maxHeartbeats 8000000 in
theorem operands_is (p : Nat) (At : Option Addr) (ct : Nat) (ns : List S101) (root : Int) (ol : List Int) (k n at_ : Int) (tx : ByteArray) (A : Option Addr) (c : Nat) (kl : List Int) (hk : ∀ k ∈ kl, 0 ≤ k ∧ k < ns.length) (hl : kl.length ≤ 4000) (w : World) (hS : Sc p At ct ns root ol w)
  (hC : Kd.C (Kd.int .i64) w A kl.length kl) (hc : kl.length ≤ c) :
  Calls Try.prog 82 #[.pointer (some ⟨p, 0, none⟩), .agg #[.int .i64 k, .int .i64 n, .int .i64 at_, .string tx, .slice A kl.length c]] w fun e w' => e = .returned (.bool (operandsF ns ol tx.data.toList kl)) ∧ Below w.heap.size w w' := by
 have HA := Lib.hid (fun (kind : Int) (w' : World) (hb : Below w.heap.size w w') => all_is p At ct ns root ol kind A c kl hk hl w' (hS.below hb) (Kd.C_below hC hb) hc)
 have HB := Lib.hid (HA.out 2)
 replace HA := Lib.hid (HA.out 1)
 unfold operandsF
 obtain ⟨r1, hr1⟩ : ∃ r, r = allF ns ol 1 kl := ⟨_, rfl⟩
 obtain ⟨r2, hr2⟩ : ∃ r, r = allF ns ol 2 kl := ⟨_, rfl⟩
 rw [← hr1] at HA ⊢
 rw [← hr2] at HB ⊢
 clear hS hk hC hr1 hr2
 rw [← toList_data]
 unfold boolB eqB
 have HBL := Lib.hid (fun o => below_alloc (Below.refl w.heap.size w) o)
 cases t1 : tx.toList == [33] with
 | true =>
  go_enter Try.func82, Try.ntmps82
  go_wp2_with fail
  refine (HB.out _ (HBL.out _)).mono ?_
  rintro e_ W1 ⟨rfl, hb_⟩
  have HB1 := Lib.hid (below_step (HBL.out _) hb_)
  clear hb_
  go_wp2_with fail
  go_ret
  exact ⟨rfl, HB1.out⟩
 | false =>
 cases t2 : tx.toList == [38, 38] with
 | true =>
  go_enter Try.func82, Try.ntmps82
  go_wp2_with fail
  refine (HB.out _ (HBL.out _)).mono ?_
  rintro e_ W1 ⟨rfl, hb_⟩
  have HB1 := Lib.hid (below_step (HBL.out _) hb_)
  clear hb_
  go_wp2_with fail
  go_ret
  exact ⟨rfl, HB1.out⟩
 | false =>
 cases t3 : tx.toList == [124, 124] with
 | true =>
  go_enter Try.func82, Try.ntmps82
  go_wp2_with fail
  refine (HB.out _ (HBL.out _)).mono ?_
  rintro e_ W1 ⟨rfl, hb_⟩
  have HB1 := Lib.hid (below_step (HBL.out _) hb_)
  clear hb_
  go_wp2_with fail
  go_ret
  exact ⟨rfl, HB1.out⟩
 | false =>
 have x0 := heap_alloc_new w (.cells #[.int .i64 k, .int .i64 n, .int .i64 at_, .string tx, .slice A kl.length c] 101)
 have X0 := Lib.hid x0
 clear x0
 cases t4 : (tx.toList == [61, 61] || tx.toList == [33, 61]) with
 | true =>
  have goal_ : Calls Try.prog 82 #[.pointer (some ⟨p, 0, none⟩), .agg #[.int .i64 k, .int .i64 n, .int .i64 at_, .string tx, .slice A kl.length c]] w fun e w' => e = .returned (.bool (r1 || r2)) ∧ Below w.heap.size w w' := by
   cases t5 : tx.toList == [61, 61] with
   | true =>
    go_enter Try.func82, Try.ntmps82
    go_wp2_with fail
    refine (HA.out _ (HBL.out _)).mono ?_
    rintro e_ W1 ⟨rfl, hb_⟩
    have HB1 := Lib.hid (below_step (HBL.out _) hb_)
    have c4 : W1.cell? ⟨w.heap.size, 4, none⟩ = some (.slice A kl.length c) := (blk_cell (blk_below X0.out hb_) 4).trans rfl
    clear hb_
    cases r1
    ·go_wp2_with fail
     refine (HB.out _ HB1.out).mono ?_
     rintro e_ W2 ⟨rfl, hb_⟩
     have HB2 := Lib.hid (below_step HB1.out hb_)
     clear hb_
     go_wp2_with fail
     go_ret
     exact ⟨rfl, HB2.out⟩
    ·go_wp2_with fail
     go_ret
     exact ⟨rfl, HB1.out⟩
   | false =>
    have t6 : (tx.toList == [33, 61]) = true := by rw [t5] at t4; exact t4
    clear t4
    go_enter Try.func82, Try.ntmps82
    go_wp2_with fail
    refine (HA.out _ (HBL.out _)).mono ?_
    rintro e_ W1 ⟨rfl, hb_⟩
    have HB1 := Lib.hid (below_step (HBL.out _) hb_)
    have c4 : W1.cell? ⟨w.heap.size, 4, none⟩ = some (.slice A kl.length c) := (blk_cell (blk_below X0.out hb_) 4).trans rfl
    clear hb_
    cases r1
    ·go_wp2_with fail
     refine (HB.out _ HB1.out).mono ?_
     rintro e_ W2 ⟨rfl, hb_⟩
     have HB2 := Lib.hid (below_step HB1.out hb_)
     clear hb_
     go_wp2_with fail
     go_ret
     exact ⟨rfl, HB2.out⟩
    ·go_wp2_with fail
     go_ret
     exact ⟨rfl, HB1.out⟩
  exact goal_
 | false =>
  have t5 : (tx.toList == [61, 61]) = false := by cases h : tx.toList == [61, 61] with | true => rw [h] at t4; cases t4 | false => rfl
  have t6 : (tx.toList == [33, 61]) = false := by rw [t5] at t4; exact t4
  clear t4
  go_enter Try.func82, Try.ntmps82
  go_wp2_with fail
  refine (HA.out _ (HBL.out _)).mono ?_
  rintro e_ W1 ⟨rfl, hb_⟩
  have HB1 := Lib.hid (below_step (HBL.out _) hb_)
  clear hb_
  go_wp2_with fail
  go_ret
  exact ⟨rfl, HB1.out⟩
end Go.Proofs.Ytkhlfdcjgooogaa.P
