import Derived.Test.YtkhlfdcjgooogaaPf64
import Derived.Outline
import Derived.Laws.EntriesVeiled
import Derived.Lib.Hide
import Derived.Test.YtkhlfdcjgooogaaTrH
import Derived.Maps.OwnSet
import Derived.WalkArith
import Derived.Test.YtkhlfdcjgooogaaTrB
set_option linter.unusedVariables false
set_option linter.unusedSimpArgs false
namespace Go.Proofs.Ytkhlfdcjgooogaa.P
open Go.RowKit Go.Proofs.YtkhlfdcjgooogaaW.PrintWords Go.Proofs.YtkhlfdcjgooogaaW.PrintLast Go.Proofs.YtkhlfdcjgooogaaW.PrintMore
attribute [local go_sem] max2_int min2_int max_two min_two max_three min_three max_four min_four
theorem bcell {W w1 : World} (hb : Below W.heap.size W w1) : (∀ b o, b < W.heap.size → w1.cell? ⟨b, o, none⟩ = W.cell? ⟨b, o, none⟩) ∧ (∀ b o, b < W.heap.size → w1.frozen? ⟨b, o, none⟩ = W.frozen? ⟨b, o, none⟩) :=
 ⟨fun b o h => hb.cell (p := ⟨b, o, none⟩) h, fun b o h => hb.frozen (p := ⟨b, o, none⟩) h⟩
def tree_Depth.kids (deep : Int → Option Int) : List Int → Int → Option Int
 | [], d => some d
 | x :: xs, d => (deep x).bind fun r => tree_Depth.kids deep xs (mx d r)
def tree_Depth.deep : Nat → List S101 → Int → Option Int
 | 0, _, _ => none
 | k + 1, l, p => if 0 ≤ p then (if p < (l.length : Int) then (tree_Depth.kids (tree_Depth.deep k l) (rd_T101 l p).f4 0).bind fun d => some (wrap64 (d + 1)) else none) else none
def tree_Depth.f (k : Nat) (l0_0 : List S101) (a0_1 : Int) : Option Int :=
 (tree_Sound.f l0_0 a0_1).bind fun t => if t = true then tree_Depth.deep k l0_0 a0_1 else some 0
set_option maxHeartbeats 800000 in
theorem tree_Depth.deep_calls (Bt Bd : Nat) (A : Option Addr) (c : Nat) (l : List S101) (root : Int) (w : World)
  (hT : w.cell? ⟨Bt, 0, none⟩ = some (.slice A l.length c)) (hD : w.cell? ⟨Bd, 0, none⟩ = some (.func (.func 89) #[] #[.pointer (some ⟨Bt, 0, none⟩), .pointer (some ⟨Bd, 0, none⟩)]))
  (hr : Kd.C k101 w A l.length l) (hc : l.length ≤ c) : ∀ (k : Nat) (p r : Int), tree_Depth.deep k l p = some r →
  Calls Try.prog 89 #[.int .i64 p, .pointer (some ⟨Bt, 0, none⟩), .pointer (some ⟨Bd, 0, none⟩)] w fun e w' => e = .returned (.int .i64 r) ∧ w' = w
 | 0, p, r, h => by simp [tree_Depth.deep] at h
 | k + 1, p, r, h => by
  have IH := Lib.hid (tree_Depth.deep_calls Bt Bd A c l root w hT hD hr hc k)
  have HR := Aside0.mk hr
  have HC := Aside0.mk hc
  clear hr hc
  rw [tree_Depth.deep] at h
  by_cases h0 : 0 ≤ p
  ·rw [if_pos h0] at h
   by_cases h1 : p < (l.length : Int)
   ·rw [if_pos h1] at h
    obtain ⟨d, hd, hrd⟩ := Option.bind_eq_some_iff.1 h
    clear h
    obtain rfl := Option.some.inj hrd
    clear hrd
    obtain ⟨ad, A4, c4, e, _, _, _, _, hk4, hl4, hC4⟩ := at_T101 HR.out p h0 h1
    cases e
    have hbnd : (rd_T101 l p).f4.length ≤ 9223372036854775807 := hC4.2.1
    have HC4 := Aside0.mk hC4
    have HL4 := Aside0.mk hl4
    clear hC4 hl4
    have HD := Aside0.mk hd
    clear hd
    go_enter Try.func89, Try.ntmps89
    go_wp2
    go_loop [5, 15] (fun v5 v15 => ∃ (i : Nat) (dv : Int), i ≤ (rd_T101 l p).f4.length ∧ v5 = .int .i64 dv ∧ v15 = .int .i64 (i : Int) ∧ Aside0 (tree_Depth.kids (tree_Depth.deep k l) ((rd_T101 l p).f4.drop i) dv = some d)) (fun _ v15 => (rd_T101 l p).f4.length - (intOf v15).toNat)
    case atStart => exact ⟨0, 0, Nat.zero_le _, rfl, rfl, by simpa using HD⟩
    case round =>
     obtain ⟨i, dv, hi, rfl, rfl, HK⟩ := hrel
     by_cases hlt : i < (rd_T101 l p).f4.length
     ·have hK := HK.out
      rw [List.drop_eq_getElem_cons hlt, tree_Depth.kids] at hK
      obtain ⟨rx, hx, hK2⟩ := Option.bind_eq_some_iff.1 hK
      clear hK
      have HX := Lib.hid hx
      have HK2 := Aside0.mk hK2
      clear hx hK2 HK
      obtain ⟨ad4, e4, hcell⟩ := Kd.at_int HC4.out (i : Int) (by omega) (by omega)
      cases e4
      have hq : rd (rd_T101 l p).f4 (i : Int) = (rd_T101 l p).f4[i] := by simp [rd, hlt]
      rw [hq, Int.toNat_natCast] at hcell
      clear hq
      go_wp2_with (go_at_call 89; refine (IH.out _ rx HX.out).mono ?_; rintro e w' ⟨rfl, rfl⟩)
      go_round
      case rel => exact ⟨i + 1, mx dv rx, by omega, rfl, by go_num, HK2⟩
      case measure => simp [intOf]; omega
     ·have hie : i = (rd_T101 l p).f4.length := by omega
      subst hie
      have hK := HK.out
      rw [List.drop_length, tree_Depth.kids] at hK
      obtain rfl := Option.some.inj hK
      clear hK HK
      go_wp2
      go_ret
      exact ⟨rfl, rfl⟩
   ·rw [if_neg h1] at h; cases h
  ·rw [if_neg h0] at h; cases h
set_option maxHeartbeats 800000 in
theorem tree_Depth.calls (k : Nat) (A0_0 : Option Addr) (c0_0 : Nat) (l0_0 : List S101) (a0_1 : Int) (r : Int) (w : World) (hr0_0 : Kd.C k101 w A0_0 l0_0.length l0_0) (hc0_0 : l0_0.length ≤ c0_0) (h : tree_Depth.f k l0_0 a0_1 = some r) :
  Calls Try.prog 65 #[.agg #[.slice A0_0 l0_0.length c0_0, .int .i64 a0_1]] w fun e w' => e = .returned (.int .i64 r) ∧ Below w.heap.size w w' := by
 have HR := Aside0.mk hr0_0
 have HC := Aside0.mk hc0_0
 clear hr0_0 hc0_0
 unfold tree_Depth.f at h
 obtain ⟨b, hb, hf⟩ := Option.bind_eq_some_iff.1 h
 clear h
 have HS := Lib.hid hb
 clear hb
 have hu30 := Try.underlying69
 cases b with
 | false =>
  obtain rfl := Option.some.inj hf
  clear hf
  go_enter Try.func65, Try.ntmps65
  go_wp2_with (go_at_call 64; refine (tree_Sound.calls _ _ l0_0 a0_1 false _ (Kd.C_below HR.out ((Below.refl _ _).alloc (Nat.le_refl _) _)) HC.out HS.out).mono ?_; rintro e w' ⟨rfl, hb⟩)
  go_ret
  exact ⟨rfl, ((Below.refl _ _).alloc (Nat.le_refl _) _).trans (hb.mono (by simp))⟩
 | true =>
  have HF := Lib.hid (show tree_Depth.deep k l0_0 a0_1 = some r from hf)
  clear hf
  go_enter Try.func65, Try.ntmps65
  go_wp2_with (go_at_call 64; refine (tree_Sound.calls _ _ l0_0 a0_1 true _ (Kd.C_below HR.out ((Below.refl _ _).alloc (Nat.le_refl _) _)) HC.out HS.out).mono ?_; rintro e w1 ⟨rfl, hb⟩; have e0 : w1.cell? ⟨w.heap.size, 0, none⟩ = some (.slice A0_0 l0_0.length c0_0) := (hb.cell (p := ⟨w.heap.size, 0, none⟩) (by simp)).trans (by go_simp); have e1 : w1.cell? ⟨w.heap.size, 1, none⟩ = some (.int .i64 a0_1) := (hb.cell (p := ⟨w.heap.size, 1, none⟩) (by simp)).trans (by go_simp); have hz1 : w.heap.size < w1.heap.size := by have := hb.size; simp at this; omega)
  refine (tree_Depth.deep_calls w.heap.size w1.heap.size A0_0 c0_0 l0_0 a0_1 _ ?hT ?hD ?hr HC.out k _ r HF.out).mono ?_
  case hT => go_simp
  case hD => go_simp
  case hr => exact Kd.C_below (Kd.C_below HR.out ((Below.refl _ _).alloc (Nat.le_refl _) _)) (((hb.mono (Nat.le_refl _)).alloc hb.size _))
  rintro e w' ⟨rfl, rfl⟩
  go_wp2
  go_ret
  exact ⟨rfl, (((Below.refl _ _).alloc (Nat.le_refl _) _).trans (hb.mono (by simp))).alloc (by omega) _⟩
def okN (nodes : List S101) (x : S101) : Bool := nodeOk nodes x.f0 x.f1 x.f3 x.f4
def Fit (nodes : List S101) : Prop := nodes.length ≤ 4000 ∧ ∀ x ∈ nodes, (∀ k ∈ x.f4, 0 ≤ k ∧ k < nodes.length) ∧ x.f4.length ≤ 4000 ∧ x.f3.size ≤ 140737488351232
theorem rd24_at (xs : List S101) (i : Nat) (h : i < xs.length) : rd_T101 xs (i : Int) = xs[i] := by
 simp [rd_T101, List.getD_eq_getElem?_getD, h]
set_option maxRecDepth 100000 in
set_option maxHeartbeats 8000000 in
theorem find_is (g : Nat) (At : Option Addr) (ct : Nat) (nodes : List S101) (root : Int) (hF : Fit nodes) (w : World) (hE : Env w) (hT : w.heap[g]? = some (.cells #[.slice At nodes.length ct, .int .i64 root] 69 (0, 0))) (hC : Kd.C k101 w At nodes.length nodes) (hct : nodes.length ≤ ct) :
  Calls Try.prog 90 #[.slice At nodes.length ct, .func (.func 67) #[] #[.pointer (some ⟨g, 0, none⟩)]] w fun e w' => ∃ v : Int, e = .returned (.int .i64 v) ∧ Hid (decide (0 ≤ v) = !(nodes.all (okN nodes))) ∧ Below w.heap.size w w' := by
 have HF := Lib.hid hF
 have HE := Lib.hid hE
 have HT := Lib.hid hT
 have HC := Lib.hid hC
 have hnl := hF.1
 clear hF hE hT hC
 go_enter Try.func90, Try.ntmps90
 go_wp2_with fail
 go_loopg [8] (nodes.length + 1) (fun kq v8 W => ∃ i : Nat, v8 = .int .i64 i ∧ i ≤ nodes.length ∧ Hid (i + kq = nodes.length + 1) ∧ Hid ((nodes.take i).all (okN nodes) = true) ∧ Hid (Below w.heap.size w W))
 case atStart => exact ⟨0, rfl, Nat.zero_le _, Lib.hid (by omega), Lib.hid rfl, Lib.hid (Below.refl _ _)⟩
 case round =>
  obtain ⟨i, rfl, hi, HN, HA, HB⟩ := hrel
  by_cases hlt : i < nodes.length
  ·obtain ⟨ad, A4, c4, eA, z0, z1, z2, z3, z4, l4, g4⟩ := at_T101 (Kd.C_below HC.out HB.out) (i : Int) (by omega) (by omega)
   have hx := rd24_at nodes i hlt
   have hfx := HF.out.2 nodes[i] (List.getElem_mem hlt)
   rw [← hx] at hfx
   have htk : nodes.take (i + 1) = nodes.take i ++ [rd_T101 nodes (i : Int)] := by rw [hx]; exact List.take_succ_eq_append_getElem hlt
   have hmem : rd_T101 nodes (i : Int) ∈ nodes := by rw [hx]; exact List.getElem_mem hlt
   rw [Int.toNat_natCast] at z0 z1 z2 z3 z4
   obtain ⟨x, hxx⟩ : ∃ x, x = rd_T101 nodes (i : Int) := ⟨_, rfl⟩
   rw [← hxx] at z0 z1 z2 z3 z4 l4 g4 hfx htk hmem
   obtain ⟨k, n, at_, tx, kl⟩ := x
   cases eA
   have HTK := Lib.hid htk
   have HMEM := Lib.hid hmem
   have HFX := Lib.hid hfx
   have HG4 := Lib.hid g4
   have HL4 := Lib.hid l4
   have HR1 := Lib.hid (right1_is g k n at_ tx A4 c4 kl _ ct nodes root wr (HE.out.below HB.out HE.out.six) ((HB.out.block _ (blk_lt HT.out)).trans HT.out) HG4.out (Kd.C_below HC.out HB.out) HL4.out hct HFX.out.2.1 hnl HFX.out.1 HFX.out.2.2)
   unfold nodeV at HR1
   clear hx hxx htk hmem hfx g4 l4
   cases hok : nodeOk nodes k n tx kl with
   | true =>
    rw [hok] at HR1
    have HOK := Lib.hid hok
    clear hok
    go_wp2_with fail
    refine HR1.out.mono ?_
    rintro e_ W2 ⟨rfl, hb_⟩
    have HB2 := Lib.hid (below_step HB.out hb_)
    clear hb_
    go_wp2_with fail
    go_roundg (gk - 1)
    case measure => have := HN.out; omega
    case rel => exact ⟨i + 1, by norm_cast, hlt, Lib.hid (by have := HN.out; omega), Lib.hid (by rw [HTK.out, List.all_append, HA.out, List.all_cons]; exact (by rw [show okN nodes ⟨k, n, at_, tx, kl⟩ = true from HOK.out]; rfl)), HB2⟩
   | false =>
    rw [hok] at HR1
    have HOK := Lib.hid hok
    clear hok
    go_wp2_with fail
    refine HR1.out.mono ?_
    rintro e_ W2 ⟨rfl, hb_⟩
    have HB2 := Lib.hid (below_step HB.out hb_)
    clear hb_
    go_wp2_with fail
    go_ret
    refine ⟨i, rfl, Lib.hid ?_, HB2.out⟩
    have h1 : nodes.all (okN nodes) = false := by
     rw [List.all_eq_false]
     exact ⟨_, HMEM.out, by rw [show okN nodes ⟨k, n, at_, tx, kl⟩ = false from HOK.out]; simp⟩
    rw [h1]
    simp
  ·obtain rfl : i = nodes.length := by omega
   have hall := HA.out
   rw [List.take_length] at hall
   have HALL := Lib.hid hall
   clear hall
   go_wp2_with fail
   go_ret
   exact ⟨-1, rfl, Lib.hid (by rw [HALL.out]; rfl), HB.out⟩
set_option maxRecDepth 100000 in
theorem any_is (g : Nat) (At : Option Addr) (ct : Nat) (nodes : List S101) (root : Int) (hF : Fit nodes) (w : World) (hE : Env w) (hT : w.heap[g]? = some (.cells #[.slice At nodes.length ct, .int .i64 root] 69 (0, 0))) (hC : Kd.C k101 w At nodes.length nodes) (hct : nodes.length ≤ ct) :
  Calls Try.prog 66 #[.slice At nodes.length ct, .func (.func 67) #[] #[.pointer (some ⟨g, 0, none⟩)]] w fun e w' => e = .returned (.bool (!(nodes.all (okN nodes)))) ∧ Below w.heap.size w w' := by
 have HX := Lib.hid (find_is g At ct nodes root hF w hE hT hC hct)
 obtain ⟨r, hr⟩ : ∃ r, r = !(nodes.all (okN nodes)) := ⟨_, rfl⟩
 rw [← hr]
 rw [← hr] at HX
 clear hF hE hT hC hr
 go_enter Try.func66, Try.ntmps66
 go_wp2_with fail
 refine HX.out.mono ?_
 rintro e_ w1 ⟨v, rfl, HV, hb_⟩
 have HB := Lib.hid hb_
 clear hb_
 have t1 : decide (0 ≤ v) = r := HV.out
 go_wp2_with fail
 go_ret
 exact ⟨rfl, HB.out⟩
def rightB (nodes : List S101) (root d : Int) : Bool := !decide (d > 40) && (rd_T101 nodes root).f0 == 1 && nodes.all (okN nodes)
set_option maxRecDepth 100000 in
set_option maxHeartbeats 8000000 in
theorem right_no (At : Option Addr) (ct : Nat) (nodes : List S101) (root : Int) (w : World) (hC : Kd.C k101 w At nodes.length nodes) (hct : nodes.length ≤ ct) (hs : tree_Sound.f nodes root = some false) :
  Calls Try.prog 50 #[.agg #[.slice At nodes.length ct, .int .i64 root]] w fun e w' => e = .returned (.bool false) ∧ Below w.heap.size w w' := by
 have hu69 := Try.underlying69
 have hu101 := Try.underlying101
 go_enter Try.func50, Try.ntmps50
 go_wp2_with fail
 refine (tree_Sound.calls At ct nodes root false _ (Kd.C_alloc hC _) hct hs).mono ?_
 rintro e w1 ⟨rfl, hb1⟩
 have T1 := Aside0.mk (((Below.refl w.heap.size w).alloc (Nat.le_refl _) (.cells #[.slice At nodes.length ct, .int .i64 root] 69 (0, 0))).trans (hb1.mono (by simp)))
 go_wp2_with fail
 go_ret
 exact ⟨rfl, T1.out⟩
set_option maxRecDepth 100000 in
set_option maxHeartbeats 8000000 in
theorem right_yes (At : Option Addr) (ct : Nat) (nodes : List S101) (root : Int) (w : World) (hC : Kd.C k101 w At nodes.length nodes) (hct : nodes.length ≤ ct) (hE : Env w) (hF : Fit nodes) (h0 : 0 ≤ root) (h1 : root < nodes.length) (kf : Nat) (d : Int) (hs : tree_Sound.f nodes root = some true) (hd : tree_Depth.f kf nodes root = some d) :
  Calls Try.prog 50 #[.agg #[.slice At nodes.length ct, .int .i64 root]] w fun e w' => e = .returned (.bool (rightB nodes root d)) ∧ Below w.heap.size w w' := by
 have HF := Lib.hid hF
 have HE := Lib.hid hE
 have HC := Lib.hid hC
 have HS := Lib.hid hs
 have HD := Lib.hid hd
 have hu69 := Try.underlying69
 have hu101 := Try.underlying101
 clear hF hE hs hd hC
 obtain ⟨d1, hd1⟩ : ∃ b, b = decide (d > 40) := ⟨_, rfl⟩
 have hd1' : decide (40 < d) = d1 := by rw [hd1]
 unfold rightB
 rw [← hd1]
 clear hd1
 obtain ⟨k0, hk0⟩ : ∃ k0, k0 = (rd_T101 nodes root).f0 := ⟨_, rfl⟩
 obtain ⟨k1, hk1⟩ : ∃ b, b = (k0 == 1) := ⟨_, rfl⟩
 rw [← hk0, ← hk1]
 have HK1 := Lib.hid hk1
 have HK0 := Lib.hid hk0
 clear hk0 hk1
 go_enter Try.func50, Try.ntmps50
 go_wp2_with fail
 have hb0 : Below w.heap.size w (w.alloc (.cells #[.slice At nodes.length ct, .int .i64 root] 69)) := below_alloc (Below.refl _ _) _
 have hbox := heap_alloc_new w (.cells #[.slice At nodes.length ct, .int .i64 root] 69)
 obtain ⟨W1, hW1⟩ : ∃ W_, W_ = w.alloc (.cells #[.slice At nodes.length ct, .int .i64 root] 69) := ⟨_, rfl⟩
 rw [← hW1] at hb0 hbox ⊢
 have HB0 := Lib.hid hb0
 have HX0 := Lib.hid hbox
 clear hW1 hb0 hbox
 refine (tree_Sound.calls At ct nodes root true _ (Kd.C_below HC.out HB0.out) hct HS.out).mono ?_
 rintro e_ W2 ⟨rfl, hb_⟩
 have HB2 := Lib.hid (below_step HB0.out hb_)
 have HX2 : Hid (W2.heap[w.heap.size]? = some (.cells #[.slice At nodes.length ct, .int .i64 root] 69 (0, 0))) := Lib.hid ((hb_.block _ (blk_lt HX0.out)).trans HX0.out)
 clear hb_
 have c2_0 : W2.cell? ⟨w.heap.size, 0, none⟩ = some (.slice At nodes.length ct) := (blk_cell HX2.out 0).trans rfl
 have c2_1 : W2.cell? ⟨w.heap.size, 1, none⟩ = some (.int .i64 root) := (blk_cell HX2.out 1).trans rfl
 go_wp2_with fail
 refine (tree_Depth.calls kf At ct nodes root d _ (Kd.C_below HC.out HB2.out) hct HD.out).mono ?_
 rintro e_ W3 ⟨rfl, hb_⟩
 clear c2_0 c2_1
 have HB3 := Lib.hid (below_step HB2.out hb_)
 have HX3 : Hid (W3.heap[w.heap.size]? = some (.cells #[.slice At nodes.length ct, .int .i64 root] 69 (0, 0))) := Lib.hid ((hb_.block _ (blk_lt HX2.out)).trans HX2.out)
 clear hb_
 have c3_0 : W3.cell? ⟨w.heap.size, 0, none⟩ = some (.slice At nodes.length ct) := (blk_cell HX3.out 0).trans rfl
 have c3_1 : W3.cell? ⟨w.heap.size, 1, none⟩ = some (.int .i64 root) := (blk_cell HX3.out 1).trans rfl
 obtain ⟨ad, A4, c4, eA, z0, z1, z2, z3, z4, l4, g4⟩ := at_T101 (Kd.C_below HC.out HB3.out) root h0 h1
 rw [← HK0.out] at z0
 clear z1 z2 z3 z4 l4 g4
 cases eA
 cases d1 with
 | true =>
  go_wp2_with fail
  go_ret
  exact ⟨rfl, HB3.out⟩
 | false =>
  cases k1 with
  | false =>
   have hne : k0 ≠ 1 := by intro h; have hk1 := HK1.out; rw [h] at hk1; cases hk1
   go_wp2_with fail
   go_ret
   exact ⟨by simp, HB3.out⟩
  | true =>
   have heq : k0 = 1 := by have hk1 := HK1.out; by_cases h : k0 = 1; exact h; simp [h] at hk1
   clear HK1 HK0
   subst heq
   go_wp2_with fail
   refine (any_is w.heap.size _ ct nodes root HF.out W3 (HE.out.below HB3.out HE.out.six) HX3.out (Kd.C_below HC.out HB3.out) hct).mono ?_
   rintro e_ W4 ⟨rfl, hb_⟩
   have HB4 := Lib.hid (below_step HB3.out hb_)
   clear hb_
   go_wp2_with fail
   go_ret
   exact ⟨by simp, HB4.out⟩
theorem cel_drew {w : World} {a : Addr} {v : Value} (h : w.cell? a = some v) : w.drew.cell? a = some v := h
def Stq (p : Prop) : Prop := p
theorem Stq.out {p : Prop} (h : Stq p) : p := h
theorem keyS : Go.Maps.Keyed Try.prog 9 := Go.Maps.string_keyed Try.underlying9
theorem keyI : Go.Maps.Keyed Try.prog 3 := Go.Maps.int_keyed Try.underlying3
theorem zero3 (w : World) : (zeroValue 3).run Try.prog w = .ok (.int .i64 0) w := by kernel_rfl
theorem zeroM (w : World) : (zeroValue 126).run Try.prog w = .ok (.map none) w := by kernel_rfl
abbrev Nm := List UInt8
def upd {α β : Type} [DecidableEq α] (f : α → Option β) (s : α) (v : β) : α → Option β := fun x => if x = s then some v else f x
def SMap (w : World) (b n : Nat) (f : Nm → Option Int) : Prop :=
 ∃ D : DataW Unit, w.ownsMap Try.prog 9 (plainElem Try.prog 3) b n D ∧ ∀ s : Nm, Go.Maps.has D (.string s) = (f s).isSome ∧ D.atKey (.string s) (.lit (.int .i64 0)) = .lit (.int .i64 ((f s).getD 0))
theorem ownsMap_heap {w w' : World} {k : TypeId} {R : Value → Option (DataW Unit × List MemPlace)} {b n : Nat} {D : DataW Unit} (h : w.ownsMap Try.prog k R b n D) (e : w'.heap[b]? = w.heap[b]?) : w'.ownsMap Try.prog k R b n D := by
 obtain ⟨es, c, hb, r⟩ := h
 exact ⟨es, c, e.trans hb, r⟩
theorem SMap.made (w : World) : SMap (w.alloc (.map #[] 0)) w.heap.size 0 (fun _ => none) :=
 ⟨.map [], World.ownsMap_made w _ _ _, fun s => ⟨rfl, rfl⟩⟩
theorem SMap.of_heap {w w' : World} {b n : Nat} {f : Nm → Option Int} (h : SMap w b n f) (e : w'.heap[b]? = w.heap[b]?) : SMap w' b n f := by
 obtain ⟨D, hD, r⟩ := h
 exact ⟨D, ownsMap_heap hD e, r⟩
theorem SMap.lt {w : World} {b n : Nat} {f : Nm → Option Int} (h : SMap w b n f) : b < w.heap.size := by
 obtain ⟨D, hD, r⟩ := h
 exact hD.lt
theorem SMap.mono {w : World} {b n m : Nat} {f : Nm → Option Int} (h : SMap w b n f) (hn : n ≤ m) : SMap w b m f := by
 obtain ⟨D, hD, r⟩ := h
 exact ⟨D, hD.mono hn, r⟩
theorem SMap.kept {w w' : World} {b n : Nat} {row : Option Nat} {f : Nm → Option Int} (h : SMap w b n f) (hg : w.grownBy w' row) (hne : some b ≠ row) : SMap w' b n f :=
 h.of_heap (hg.block b h.lt hne)
theorem SMap.look2 {w : World} {b n : Nat} {f : Nm → Option Int} (h : SMap w b n f) (s : ByteArray) (hs : s.size ≤ 140737488351232) :
  (Instr.lookup 126 (.map (some b)) (.string s) true).run Try.prog w = .ok (.tuple #[.int .i64 ((f s.data.toList).getD 0), .bool (f s.data.toList).isSome]) w := by
 obtain ⟨D, hD, r⟩ := h
 obtain ⟨v, ps, hrun, hv⟩ := hD.look_ok keyS Try.underlying126 (zero3 w) (plainElem_int Try.underlying3 (by decide)) (Go.WideMaps.keyOf_string_mk Try.underlying9 (s := s) (by unfold maxLen; omega))
 obtain ⟨c, rfl, hc, _⟩ := plainElem_int_inv Try.underlying3 hv
 have h1 := (r s.data.toList).2
 simp only [Prod.mk.injEq] at hc
 rw [h1] at hc
 have hc' := hc.1
 simp only [DataW.lit.injEq, Lit.int.injEq, true_and] at hc'
 rw [hrun, (r s.data.toList).1, hc']
theorem SMap.look1 {w : World} {b n : Nat} {f : Nm → Option Int} (h : SMap w b n f) (s : ByteArray) (hs : s.size ≤ 140737488351232) :
  (Instr.lookup 126 (.map (some b)) (.string s) false).run Try.prog w = .ok (.int .i64 ((f s.data.toList).getD 0)) w := by
 obtain ⟨D, hD, r⟩ := h
 obtain ⟨c, hrun, hc, _⟩ := hD.lookup_int keyS Try.underlying126 Try.underlying3 (zero3 w) (Go.WideMaps.keyOf_string_mk Try.underlying9 (s := s) (by unfold maxLen; omega))
 rw [(r s.data.toList).2] at hc
 simp only [DataW.lit.injEq, Lit.int.injEq, true_and] at hc
 rw [hrun, hc]
theorem keyLit_s (s : Nm) : WideAt.IsKeyLit (.string s) := trivial
theorem SMap.put {w : World} {b n : Nat} {f : Nm → Option Int} (h : SMap w b n f) (hn : n ≤ 100000) (s : ByteArray) (hs : s.size ≤ 140737488351232) (v : Int) (hv : (Lit.int .i64 v).wf = true) :
  ∃ w', (Instr.mapUpdate 126 (.map (some b)) (.string s) (.int .i64 v)).run Try.prog w = .ok () w' ∧ SMap w' b (n + 1) (upd f s.data.toList v) ∧ w.grownBy w' (some b) := by
 obtain ⟨D, hD, r⟩ := h
 obtain ⟨w', hrun, hD', hg⟩ := hD.update keyS Try.underlying126 (by unfold maxLen; omega) (Go.WideMaps.keyOf_string_mk Try.underlying9 (s := s) (by unfold maxLen; omega)) (plainElem_int Try.underlying3 hv)
 refine ⟨w', hrun, ⟨_, hD', fun x => ?_⟩, hg⟩
 unfold upd
 by_cases hx : x = s.data.toList
 ·subst hx
  rw [if_pos rfl, Go.Maps.has_put_same hD.isMap (keyLit_s _), Go.Maps.atKey_put_same hD.isMap (keyLit_s _)]
  exact ⟨rfl, rfl⟩
 ·rw [if_neg hx, Go.Maps.has_put_other (by simpa using hx), Go.Maps.atKey_put_other (by simpa using hx)]
  exact r x
def mapElem : Value → Option (DataW Unit × List MemPlace)
 | .map none => some (.nil, [])
 | .map (some b) => some (.lit (.int .i64 b), [])
 | _ => none
def mapD : Option Nat → DataW Unit
 | none => .nil
 | some b => .lit (.int .i64 b)
theorem mapElem_mk (o : Option Nat) : mapElem (.map o) = some (mapD o, []) := by cases o <;> rfl
theorem mapElem_inv {v : Value} {o : Option Nat} {ps : List MemPlace} (h : mapElem v = some (mapD o, ps)) : v = .map o := by
 cases v <;> try (cases h; done)
 rename_i p
 cases p <;> cases o <;> simp [mapElem, mapD] at h
 ·rfl
 ·obtain ⟨h1, _⟩ := h
  congr 2
  omega
def LMap (w : World) (b n : Nat) (f : Int → Option Nat) : Prop :=
 ∃ D : DataW Unit, w.ownsMap Try.prog 3 mapElem b n D ∧ ∀ s : Int, D.atKey (.int .i64 s) .nil = mapD (f s)
theorem LMap.made (w : World) : LMap (w.alloc (.map #[] 0)) w.heap.size 0 (fun _ => none) :=
 ⟨.map [], World.ownsMap_made w _ _ _, fun s => rfl⟩
theorem LMap.of_heap {w w' : World} {b n : Nat} {f : Int → Option Nat} (h : LMap w b n f) (e : w'.heap[b]? = w.heap[b]?) : LMap w' b n f := by
 obtain ⟨D, hD, r⟩ := h
 exact ⟨D, ownsMap_heap hD e, r⟩
theorem LMap.lt {w : World} {b n : Nat} {f : Int → Option Nat} (h : LMap w b n f) : b < w.heap.size := by
 obtain ⟨D, hD, r⟩ := h
 exact hD.lt
theorem LMap.kept {w w' : World} {b n : Nat} {row : Option Nat} {f : Int → Option Nat} (h : LMap w b n f) (hg : w.grownBy w' row) (hne : some b ≠ row) : LMap w' b n f :=
 h.of_heap (hg.block b h.lt hne)
theorem LMap.look {w : World} {b n : Nat} {f : Int → Option Nat} (h : LMap w b n f) (o : Int) (ho : (Lit.int .i64 o).wf = true) :
  (Instr.lookup 127 (.map (some b)) (.int .i64 o) false).run Try.prog w = .ok (.map (f o)) w := by
 obtain ⟨D, hD, r⟩ := h
 obtain ⟨v, ps, hrun, hv⟩ := hD.lookup keyI Try.underlying127 (zeroM w) (mapElem_mk none) (Go.Maps.keyOf_int_mk Try.underlying3 ho)
 rw [show mapD none = .nil from rfl, r o] at hv
 rw [hrun, mapElem_inv hv]
theorem keyLit_i (a : Int) : WideAt.IsKeyLit (.int .i64 a) := trivial
theorem LMap.put {w : World} {b n : Nat} {f : Int → Option Nat} (h : LMap w b n f) (hn : n ≤ 100000) (o : Int) (ho : (Lit.int .i64 o).wf = true) (v : Nat) :
  ∃ w', (Instr.mapUpdate 127 (.map (some b)) (.int .i64 o) (.map (some v))).run Try.prog w = .ok () w' ∧ LMap w' b (n + 1) (upd f o v) ∧ w.grownBy w' (some b) := by
 obtain ⟨D, hD, r⟩ := h
 obtain ⟨w', hrun, hD', hg⟩ := hD.update keyI Try.underlying127 (by unfold maxLen; omega) (Go.Maps.keyOf_int_mk Try.underlying3 ho) (mapElem_mk (some v))
 refine ⟨w', hrun, ⟨_, hD', fun x => ?_⟩, hg⟩
 unfold upd
 by_cases hx : x = o
 ·subst hx
  rw [if_pos rfl, Go.Maps.atKey_put_same hD.isMap (keyLit_i _)]
 ·rw [if_neg hx, Go.Maps.atKey_put_other (by simpa using hx)]
  exact r x
section
variable {ops : Array Oper} {rest : List Oper} {o : Oper} {a : Act} {Q : Exit → Act → World → Prop}
theorem wp_putL {w : World} (hg : o.guard = none) (m x v : Operand) (hop : o.op = Op.mapUpdate 127 m x v) {b n : Nat} {f : Int → Option Nat} (hm : a.eval m = .map (some b)) (h : LMap w b n f) (hn : n ≤ 100000)
  (s : Int) (hx : a.eval x = .int .i64 s) (hs : (Lit.int .i64 s).wf = true) (k : Nat) (hv : a.eval v = .map (some k))
  (hK : ∀ w', LMap w' b (n + 1) (upd f s k) → w.grownBy w' (some b) → wpList Try.prog ops Q rest (a.put o.dst undef) w') : wpList Try.prog ops Q (o :: rest) a w := by
 refine wpList_plain hg fun K' hK' => ?_
 obtain ⟨w', hrun, r1, r2⟩ := h.put hn s hs k
 unfold Oper.wp
 simp [execOp, hop, hm, hx, hv, hrun, Result.andThen]
 exact hK' _ _ (hK w' r1 r2)
end
def nmOf (ns : List S101) (i : Int) : Nm := (rd_T101 ns i).f3.data.toList
def kdOf (ns : List S101) (i : Int) : Int := (rd_T101 ns i).f0
def nOf (ns : List S101) (i : Int) : Int := (rd_T101 ns i).f1
def fstI (p : Nat → Bool) : Nat → Option Int
 | 0 => none
 | n + 1 => match fstI p n with
  | some d => some d
  | none => if p n = true then some (n : Int) else none
theorem fstI_range (p : Nat → Bool) : ∀ (n : Nat) (d : Int), fstI p n = some d → 0 ≤ d ∧ d < n ∧ p d.toNat = true
 | 0, d, h => by cases h
 | n + 1, d, h => by
  rw [fstI] at h
  cases e : fstI p n with
  | some d' =>
   rw [e] at h
   cases h
   have := fstI_range p n d e
   exact ⟨this.1, by omega, this.2.2⟩
  | none =>
   rw [e] at h
   by_cases hp : p n = true
   ·simp only [hp, if_true] at h
    cases h
    exact ⟨by omega, by omega, hp⟩
   ·simp [hp] at h
def glF (ns : List S101) (n : Nat) (s : Nm) : Option Int := fstI (fun j => decide (kdOf ns j = 2) && decide (nmOf ns j = s)) n
def prF (ns : List S101) (n : Nat) (s : Nm) : Option Int := fstI (fun j => decide (kdOf ns j = 3) && decide (nmOf ns j = s)) n
def loF (ns : List S101) (ol : List Int) (o : Int) (n : Nat) (s : Nm) : Option Int := fstI (fun j => (decide (kdOf ns j = 4) || decide (kdOf ns j = 5)) && (decide (rd ol j = o) && decide (nmOf ns j = s))) n
def intCells (l : List Int) : Array Value := (l.map (Value.int .i64)).toArray
theorem intCells_get (l : List Int) (i : Int) (h0 : 0 ≤ i) (h1 : i < l.length) : (intCells l)[i.toNat]? = some (.int .i64 (rd l i)) := by
 have : i.toNat < l.length := by omega
 simp [intCells, rd, this]
theorem intCells_set (l : List Int) (i : Int) (v : Int) : (intCells l).setIfInBounds i.toNat (.int .i64 v) = intCells (l.set i.toNat v) := by
 simp [intCells, List.map_set]
def OwnOk (ns : List S101) (ol : List Int) : Prop := ol.length = ns.length ∧ ∀ i : Int, 0 ≤ i → i < ns.length → rd ol i = -1 ∨ (0 ≤ rd ol i ∧ rd ol i < ns.length ∧ kdOf ns (rd ol i) = 3)
structure ScB (p bo g r l : Nat) (Lb : Int → Option Nat) (At : Option Addr) (ct : Nat) (ns : List S101) (root : Int) (ol : List Int) (w : World) : Prop where
 hp : w.heap[p]? = some (.cells #[.slice At ns.length ct, .int .i64 root, .slice (some ⟨bo, 0, none⟩) ns.length ns.length, .map (some g), .map (some r), .map (some l)] 129 (0, 0))
 hO : w.heap[bo]? = some (.cells (intCells ol) 3 (0, 0))
 hown : OwnOk ns ol
 hG : SMap w g ns.length (glF ns ns.length)
 hR : SMap w r ns.length (prF ns ns.length)
 hL : LMap w l ns.length Lb
 hLs : ∀ o b, Lb o = some b → SMap w b ns.length (loF ns ol o ns.length)
 hLd : ∀ o : Int, 0 ≤ o → o < ns.length → kdOf ns o = 3 → (Lb o).isSome = true
 hC : Kd.C k101 w At ns.length ns
 hct : ns.length ≤ ct
 hn : ns.length ≤ 4000
 hs : ∀ x ∈ ns, x.f3.size ≤ 140737488351232
def Sc (p : Nat) (At : Option Addr) (ct : Nat) (ns : List S101) (root : Int) (ol : List Int) (w : World) : Prop := ∃ bo g r l Lb, ScB p bo g r l Lb At ct ns root ol w
theorem Sc.below {p : Nat} {At : Option Addr} {ct : Nat} {ns : List S101} {root : Int} {ol : List Int} {w w' : World} (h : Sc p At ct ns root ol w) (hb : Below w.heap.size w w') : Sc p At ct ns root ol w' := by
 obtain ⟨bo, g, r, l, Lb, h⟩ := h
 exact ⟨bo, g, r, l, Lb, blk_below h.hp hb, blk_below h.hO hb, h.hown, h.hG.of_heap (hb.block _ h.hG.lt), h.hR.of_heap (hb.block _ h.hR.lt), h.hL.of_heap (hb.block _ h.hL.lt), fun o b e => (h.hLs o b e).of_heap (hb.block _ (h.hLs o b e).lt), h.hLd, Kd.C_below h.hC hb, h.hct, h.hn, h.hs⟩
theorem rd24_mem (ns : List S101) (i : Int) (h0 : 0 ≤ i) (h1 : i < ns.length) : rd_T101 ns i ∈ ns := by
 obtain ⟨j, rfl⟩ := Int.eq_ofNat_of_zero_le h0
 rw [rd24_at ns j (by omega)]
 exact List.getElem_mem _
def meansF (ns : List S101) (ol : List Int) (place : Int) (s : Nm) : Int :=
 if rd ol place = -1 then -1 else match loF ns ol (rd ol place) ns.length s with
  | some d => d
  | none => match glF ns ns.length s with
   | some d => d
   | none => -1
def procF (ns : List S101) (s : Nm) : Int := match prF ns ns.length s with
 | some d => d
 | none => -1
theorem meansF_range (ns : List S101) (ol : List Int) (place : Int) (s : Nm) : meansF ns ol place s = -1 ∨ (0 ≤ meansF ns ol place s ∧ meansF ns ol place s < ns.length) := by
 unfold meansF
 split
 ·exact .inl rfl
 ·cases e : loF ns ol (rd ol place) ns.length s with
  | some d => have := fstI_range _ _ _ e; exact .inr ⟨this.1, this.2.1⟩
  | none =>
   cases e : glF ns ns.length s with
   | some d => have := fstI_range _ _ _ e; exact .inr ⟨this.1, this.2.1⟩
   | none => exact .inl rfl
theorem procF_range (ns : List S101) (s : Nm) : procF ns s = -1 ∨ (0 ≤ procF ns s ∧ procF ns s < ns.length) := by
 unfold procF
 cases e : prF ns ns.length s with
 | some d => have := fstI_range _ _ _ e; exact .inr ⟨this.1, this.2.1⟩
 | none => exact .inl rfl
def kindF (ns : List S101) (ol : List Int) (place : Int) (s : Nm) : Int := if meansF ns ol place s = -1 then 0 else nOf ns (meansF ns ol place s)
theorem wf64 {v : Int} (h : -1000000 ≤ v) (h1 : v ≤ 1000000) : (Lit.int .i64 v).wf = true := WalkArith.wf_i64 (by omega)
set_option maxRecDepth 100000 in
set_option maxHeartbeats 8000000 in
theorem proc_is (p : Nat) (At : Option Addr) (ct : Nat) (ns : List S101) (root : Int) (ol : List Int) (s : ByteArray) (hs : s.size ≤ 140737488351232) (w : World) (hS : Sc p At ct ns root ol w) :
  Calls Try.prog 53 #[.pointer (some ⟨p, 0, none⟩), .string s] w fun e w' => e = .returned (.int .i64 (procF ns s.data.toList)) ∧ Below w.heap.size w w' := by
 obtain ⟨bo, g, r, l, Lb, h⟩ := hS
 have c3 : w.cell? ⟨p, 4, none⟩ = some (.map (some r)) := (blk_cell h.hp 4).trans rfl
 have lk := h.hR.look2 s hs
 unfold procF
 clear h
 obtain ⟨x, hx⟩ : ∃ x, x = prF ns ns.length s.data.toList := ⟨_, rfl⟩
 rw [← hx] at lk ⊢
 clear hx
 cases x with
 | none =>
  go_enter Try.func53, Try.ntmps53
  go_wp2_with fail
  go_ret
  exact ⟨rfl, Below.refl _ _⟩
 | some d =>
  go_enter Try.func53, Try.ntmps53
  go_wp2_with fail
  go_ret
  exact ⟨rfl, Below.refl _ _⟩
set_option maxRecDepth 100000 in
set_option maxHeartbeats 8000000 in
theorem means_is (p : Nat) (At : Option Addr) (ct : Nat) (ns : List S101) (root : Int) (ol : List Int) (place : Int) (h0 : 0 ≤ place) (h1 : place < ns.length) (s : ByteArray) (hs : s.size ≤ 140737488351232) (w : World) (hS : Sc p At ct ns root ol w) :
  Calls Try.prog 87 #[.pointer (some ⟨p, 0, none⟩), .int .i64 place, .string s] w fun e w' => e = .returned (.int .i64 (meansF ns ol place s.data.toList)) ∧ Below w.heap.size w w' := by
 obtain ⟨bo, g, r, l, Lb, h⟩ := hS
 have c1 : w.cell? ⟨p, 1 + 1, none⟩ = some (.slice (some ⟨bo, 0, none⟩) ns.length ns.length) := (blk_cell h.hp 2).trans rfl
 have c2 : w.cell? ⟨p, 3, none⟩ = some (.map (some g)) := (blk_cell h.hp 3).trans rfl
 have c4 : w.cell? ⟨p, 5, none⟩ = some (.map (some l)) := (blk_cell h.hp 5).trans rfl
 have co : w.cell? ⟨bo, place.toNat, none⟩ = some (.int .i64 (rd ol place)) := (blk_cell h.hO _).trans (intCells_get ol place h0 (by have := h.hown.1; omega))
 have lk := h.hG.look2 s hs
 have hn := h.hn
 have how := h.hown.2 place h0 h1
 have h0e := eq_true h0
 have h1e := eq_true h1
 unfold meansF
 obtain ⟨o, ho⟩ : ∃ o, o = rd ol place := ⟨_, rfl⟩
 rw [← ho] at co how ⊢
 by_cases hm : o = -1
 ·subst hm
  clear ho h
  rw [if_pos rfl]
  go_enter Try.func87, Try.ntmps87
  go_wp2_with fail
  go_ret
  exact ⟨rfl, Below.refl _ _⟩
 ·rw [if_neg hm]
  have how' : 0 ≤ o ∧ o < ns.length ∧ kdOf ns o = 3 := how.resolve_left hm
  have lk4 := h.hL.look o (wf64 (by omega) (by omega))
  obtain ⟨b, hb⟩ := Option.isSome_iff_exists.1 (h.hLd o how'.1 how'.2.1 how'.2.2)
  have lk5 := (h.hLs o b hb).look2 s hs
  rw [hb] at lk4
  obtain ⟨x, hx⟩ : ∃ x, x = loF ns ol o ns.length s.data.toList := ⟨_, rfl⟩
  rw [← hx] at lk5 ⊢
  obtain ⟨y, hy⟩ : ∃ y, y = glF ns ns.length s.data.toList := ⟨_, rfl⟩
  rw [← hy] at lk ⊢
  clear hx hy ho h how how' hb
  cases x with
  | some d =>
   go_enter Try.func87, Try.ntmps87
   go_wp2_with fail
   go_ret
   exact ⟨rfl, Below.refl _ _⟩
  | none =>
   cases y with
   | some d =>
    go_enter Try.func87, Try.ntmps87
    go_wp2_with fail
    go_ret
    exact ⟨rfl, Below.refl _ _⟩
   | none =>
    go_enter Try.func87, Try.ntmps87
    go_wp2_with fail
    go_ret
    exact ⟨rfl, Below.refl _ _⟩
set_option maxRecDepth 100000 in
set_option maxHeartbeats 8000000 in
theorem kind_is (p : Nat) (At : Option Addr) (ct : Nat) (ns : List S101) (root : Int) (ol : List Int) (place : Int) (h0 : 0 ≤ place) (h1 : place < ns.length) (s : ByteArray) (hs : s.size ≤ 140737488351232) (w : World) (hS : Sc p At ct ns root ol w) :
  Calls Try.prog 84 #[.pointer (some ⟨p, 0, none⟩), .int .i64 place, .string s] w fun e w' => e = .returned (.int .i64 (kindF ns ol place s.data.toList)) ∧ Below w.heap.size w w' := by
 have HM := Lib.hid (means_is p At ct ns root ol place h0 h1 s hs w hS)
 have HS := Lib.hid hS
 clear hS
 have hr := meansF_range ns ol place s.data.toList
 unfold kindF
 obtain ⟨d, hd⟩ : ∃ d, d = meansF ns ol place s.data.toList := ⟨_, rfl⟩
 rw [← hd] at HM hr ⊢
 clear hd
 obtain ⟨R, hR⟩ : ∃ R, R = if d = -1 then 0 else nOf ns d := ⟨_, rfl⟩
 rw [← hR]
 go_enter Try.func84, Try.ntmps84
 go_wp2_with fail
 refine HM.out.mono ?_
 rintro e_ w1 ⟨rfl, hb_⟩
 have HB1 := Lib.hid hb_
 clear hb_
 by_cases hm : d = -1
 ·subst hm
  rw [if_pos rfl] at hR
  subst hR
  go_wp2_with fail
  go_ret
  exact ⟨rfl, HB1.out⟩
 ·rw [if_neg hm] at hR
  have hr' := hr.resolve_left hm
  obtain ⟨bo, g, r, l, Lb, h⟩ := HS.out.below HB1.out
  have c0 : w1.cell? ⟨p, 0, none⟩ = some (.slice At ns.length ct) := (blk_cell h.hp 0).trans rfl
  obtain ⟨ad, A4, c4, eA, z0, z1, z2, z3, z4, l4, g4⟩ := at_T101 h.hC d hr'.1 hr'.2
  have e0 := eq_true hr'.1
  have e1 := eq_true hr'.2
  have hR' : R = (rd_T101 ns d).f1 := hR
  rw [← hR'] at z1
  cases eA
  clear h hr hr' hR hR'
  go_wp2_with fail
  go_ret
  exact ⟨rfl, HB1.out⟩
def slices_Equal_int_int.l0 : Nat → List Int → List Int → Int → Int → Option (Bool)
 | 0, _, _, _, _ => none
 | k + 1, x0, x1, x12, x13 => if x13 < x12 then (if 0 ≤ x13 then (if x13 < (x0.length : Int) then (if x13 < (x1.length : Int) then (if (rd x0 x13) = (rd x1 x13) then (slices_Equal_int_int.l0 k x0 x1 x12 (wrap64 (x13 + 1))) else (some false)) else (none)) else (none)) else (none)) else (some true)
def slices_Equal_int_int.f (k : Nat) (l0 : List Int) (l1 : List Int) : Option (Bool) := if (l0.length : Int) = (l1.length : Int) then (slices_Equal_int_int.l0 k l0 l1 (l0.length : Int) 0) else (some false)
theorem slices_Equal_int_int.mono_l : ∀ k, (∀ y0 y1 y2 y3, LeO (slices_Equal_int_int.l0 k y0 y1 y2 y3) (slices_Equal_int_int.l0 (k + 1) y0 y1 y2 y3))
 | 0 => fun _ _ _ _ r h => by simp [slices_Equal_int_int.l0] at h
 | k + 1 => by
  have ih0 := slices_Equal_int_int.mono_l k
  ·intro y0 y1 y2 y3
   unfold slices_Equal_int_int.l0
   repeat' first
   | (with_reducible exact ih0 _ _ _ _)
   | (with_reducible exact LeO.refl _)
   | (with_reducible exact LeO.none _)
   | (with_reducible refine LeO.ite ?_ ?_)
   | (with_reducible refine LeO.bind ?_ (fun _ => ?_))
   | exact ih0 _ _ _ _
   | exact LeO.none _
   | refine LeO.ite ?_ ?_
   | refine LeO.bind ?_ (fun _ => ?_)
theorem slices_Equal_int_int.mono : ∀ a0 a1 k, LeO (slices_Equal_int_int.f k a0 a1) (slices_Equal_int_int.f (k + 1) a0 a1) := by
 intro a0 a1 k
 have ih0 := slices_Equal_int_int.mono_l k
 unfold slices_Equal_int_int.f
 repeat' first
   | (with_reducible exact ih0 _ _ _ _)
   | (with_reducible exact LeO.refl _)
   | (with_reducible exact LeO.none _)
   | (with_reducible refine LeO.ite ?_ ?_)
   | (with_reducible refine LeO.bind ?_ (fun _ => ?_))
   | exact ih0 _ _ _ _
   | exact LeO.none _
   | refine LeO.ite ?_ ?_
   | refine LeO.bind ?_ (fun _ => ?_)
set_option maxHeartbeats 8000000 in
set_option maxRecDepth 100000 in
theorem slices_Equal_int_int.calls (k : Nat) (A0 : Option Addr) (c0 : Nat) (l0 : List Int) (A1 : Option Addr) (c1 : Nat) (l1 : List Int) (r : Bool) (w : World) (hr0 : Kd.C (Kd.int .i64) w A0 l0.length l0) (hc0 : l0.length ≤ c0) (hr1 : Kd.C (Kd.int .i64) w A1 l1.length l1) (hc1 : l1.length ≤ c1) (h : slices_Equal_int_int.f k l0 l1 = some r) :
  Calls Try.prog 102 #[.slice A0 l0.length c0, .slice A1 l1.length c1] w fun e w' => e = .returned (.bool r) ∧ Drawn0 w w' := by
 have HR0 := Aside0.mk hr0
 have HC0 := Aside0.mk hc0
 clear hr0 hc0
 have HR1 := Aside0.mk hr1
 have HC1 := Aside0.mk hc1
 clear hr1 hc1
 have H : (if (l0.length : Int) = (l1.length : Int) then (slices_Equal_int_int.l0 k l0 l1 (l0.length : Int) 0) else (some false)) = some r := h
 clear h
 by_cases c3 : (l0.length : Int) = (l1.length : Int)
 ·rw [if_pos c3] at H
  have c3b0 : ((l0.length : Int) == (l1.length : Int)) = true := beq_iff_eq.mpr c3
  have c3b1 : ((l0.length : Int) != (l1.length : Int)) = false := bne_eq_false_iff_eq.mpr c3
  have c3b2 : (l0.length == l1.length) = true := by first | simpa using c3 | (simp at c3 ⊢; omega)
  clear c3
  have H' := Aside0.mk H
  clear H
  go_enter Try.func102, Try.ntmps102
  go_wp2
  repeat (go_quiet (fail); try go_wp2)
  go_loopg [13] k (fun kq v13 w' => ∃ (x13_1 : Int), v13 = .int .i64 x13_1 ∧ Aside0 (slices_Equal_int_int.l0 kq l0 l1 (l0.length : Int) x13_1 = some r) ∧ Aside0 (kq ≤ k) ∧ Drawn0 w w')
  case atStart => exact ⟨(0), (by first | rfl | (simp; done) | (simp [*]; done)), H', ⟨Nat.le_refl _⟩, by repeat (first | exact Drawn0.refl _ | apply Drawn0.step)⟩
  case round =>
   clear H'
   try clear c1
   try clear p2
   try clear c3
   try clear c3b0
   try clear c3b1
   try clear c3b2
   obtain ⟨x13_1, rfl, HA, HK1, ⟨m1, rfl⟩⟩ := hrel
   cases gk with
   | zero => exact absurd HA.out (by simp [slices_Equal_int_int.l0])
   | succ k1 =>
    have H := HA.out
    clear HA
    simp only [slices_Equal_int_int.l0] at H
    by_cases c4 : x13_1 < (l0.length : Int)
    ·rw [if_pos c4] at H
     have c4b0 : decide (x13_1 < (l0.length : Int)) = true := decide_eq_true c4
     clear c4
     by_cases c5 : 0 ≤ x13_1
     ·rw [if_pos c5] at H
      have c5b0 : decide (0 ≤ x13_1) = true := decide_eq_true c5
      clear c5
      by_cases c6 : x13_1 < (l0.length : Int)
      ·rw [if_pos c6] at H
       have c6b0 : decide (x13_1 < (l0.length : Int)) = true := decide_eq_true c6
       clear c6
       by_cases c7 : x13_1 < (l1.length : Int)
       ·rw [if_pos c7] at H
        have c7b0 : decide (x13_1 < (l1.length : Int)) = true := decide_eq_true c7
        clear c7
        by_cases c8 : (rd l0 x13_1) = (rd l1 x13_1)
        ·rw [if_pos c8] at H
         have c8b0 : ((rd l0 x13_1) == (rd l1 x13_1)) = true := beq_iff_eq.mpr c8
         have c8b1 : ((rd l0 x13_1) != (rd l1 x13_1)) = false := bne_eq_false_iff_eq.mpr c8
         clear c8
         have H' := Aside0.mk H
         clear H
         have p175 : 0 ≤ (x13_1 : Int) := of_decide_eq_true (by first | (with_reducible assumption) | assumption)
         have q175 : x13_1 < (l0.length : Int) := of_decide_eq_true (by first | (with_reducible assumption) | assumption)
         obtain ⟨ad175, e175, hx175_0⟩ := Kd.at_int HR0.out x13_1 p175 q175
         cases e175
         replace p175 := eq_true p175
         replace q175 := eq_true q175
         have p176 : 0 ≤ (x13_1 : Int) := of_decide_eq_true (by first | (with_reducible assumption) | assumption)
         have q176 : x13_1 < (l1.length : Int) := of_decide_eq_true (by first | (with_reducible assumption) | assumption)
         obtain ⟨ad176, e176, hx176_0⟩ := Kd.at_int HR1.out x13_1 p176 q176
         cases e176
         replace p176 := eq_true p176
         replace q176 := eq_true q176
         go_wp2
         repeat (go_quiet (fail); try go_wp2)
         go_roundg k1
         case measure => have := HK1.out; omega
         case rel => exact ⟨(wrap64 (x13_1 + 1)), (by first | rfl | (simp; done) | (simp [*]; done)), H', ⟨by have := HK1.out; omega⟩, by repeat (first | exact Drawn0.refl _ | apply Drawn0.step)⟩
        ·rw [if_neg c8] at H
         have c8b0 : ((rd l0 x13_1) == (rd l1 x13_1)) = false := beq_eq_false_iff_ne.mpr c8
         have c8b1 : ((rd l0 x13_1) != (rd l1 x13_1)) = true := bne_iff_ne.mpr c8
         obtain rfl := Option.some.inj H
         have p175 : 0 ≤ (x13_1 : Int) := of_decide_eq_true (by first | (with_reducible assumption) | assumption)
         have q175 : x13_1 < (l0.length : Int) := of_decide_eq_true (by first | (with_reducible assumption) | assumption)
         obtain ⟨ad175, e175, hx175_0⟩ := Kd.at_int HR0.out x13_1 p175 q175
         cases e175
         replace p175 := eq_true p175
         replace q175 := eq_true q175
         have p176 : 0 ≤ (x13_1 : Int) := of_decide_eq_true (by first | (with_reducible assumption) | assumption)
         have q176 : x13_1 < (l1.length : Int) := of_decide_eq_true (by first | (with_reducible assumption) | assumption)
         obtain ⟨ad176, e176, hx176_0⟩ := Kd.at_int HR1.out x13_1 p176 q176
         cases e176
         replace p176 := eq_true p176
         replace q176 := eq_true q176
         go_wp2
         repeat (go_quiet (fail); try go_wp2)
         go_ret
         exact ⟨by first | rfl | (simp; done) | (simp [*]; done), by repeat (first | exact Drawn0.refl _ | apply Drawn0.step)⟩
       ·rw [if_neg c7] at H
        exact absurd H (by simp)
      ·rw [if_neg c6] at H
       exact absurd H (by simp)
     ·rw [if_neg c5] at H
      exact absurd H (by simp)
    ·rw [if_neg c4] at H
     have c4b0 : decide (x13_1 < (l0.length : Int)) = false := decide_eq_false c4
     clear c4
     obtain rfl := Option.some.inj H
     go_wp2
     repeat (go_quiet (fail); try go_wp2)
     go_ret
     exact ⟨by first | rfl | (simp; done) | (simp [*]; done), by repeat (first | exact Drawn0.refl _ | apply Drawn0.step)⟩
 ·rw [if_neg c3] at H
  have c3b0 : ((l0.length : Int) == (l1.length : Int)) = false := beq_eq_false_iff_ne.mpr c3
  have c3b1 : ((l0.length : Int) != (l1.length : Int)) = true := bne_iff_ne.mpr c3
  have c3b2 : (l0.length == l1.length) = false := by first | simpa using c3 | (simp at c3 ⊢; omega)
  obtain rfl := Option.some.inj H
  go_enter Try.func102, Try.ntmps102
  go_wp2
  repeat (go_quiet (fail); try go_wp2)
  go_ret
  exact ⟨by first | rfl | (simp; done) | (simp [*]; done), by repeat (first | exact Drawn0.refl _ | apply Drawn0.step)⟩
def parsL (ns : List S101) (ks : List Int) : List Int := (ks.filter (fun k => decide (kdOf ns k = 4))).map (nOf ns)
def paramsF (ns : List S101) (p : Int) : List Int := parsL ns (rd_T101 ns p).f4
theorem parsL_snoc (ns : List S101) (ks : List Int) (i : Nat) (h : i < ks.length) : parsL ns (ks.take (i + 1)) = if kdOf ns ks[i] = 4 then parsL ns (ks.take i) ++ [nOf ns ks[i]] else parsL ns (ks.take i) := by
 rw [List.take_succ_eq_append_getElem h, parsL, List.filter_append, List.map_append]
 by_cases hk : kdOf ns ks[i] = 4
 ·rw [if_pos hk, List.filter_cons_of_pos (by simpa using hk)]
  rfl
 ·rw [if_neg hk, List.filter_cons_of_neg (by simpa using hk)]
  simp [parsL]
def KidsIn (ns : List S101) : Prop := ∀ x ∈ ns, (∀ k ∈ x.f4, 0 ≤ k ∧ k < ns.length) ∧ x.f4.length ≤ 4000
theorem told_is (b : Bool) (w : World) : Calls Try.prog 80 #[.bool b] w fun e w' => e = .returned (.int .i64 (if b = true then 0 else 5)) ∧ w' = w := by
 cases b
 ·go_enter Try.func80, Try.ntmps80
  go_wp2_with fail
  go_ret
  exact ⟨rfl, rfl⟩
 ·go_enter Try.func80, Try.ntmps80
  go_wp2_with fail
  go_ret
  exact ⟨rfl, rfl⟩
set_option maxRecDepth 100000 in
set_option maxHeartbeats 8000000 in
theorem params_is (p : Nat) (At : Option Addr) (ct : Nat) (ns : List S101) (root : Int) (ol : List Int) (q : Int) (h0 : 0 ≤ q) (h1 : q < ns.length) (hk : KidsIn ns) (w : World) (hS : Sc p At ct ns root ol w) :
  Calls Try.prog 54 #[.pointer (some ⟨p, 0, none⟩), .int .i64 q] w fun e w' => ∃ v : Value, e = .returned v ∧ Kd.R (Kd.int .i64) 3 w' w.heap.size (fun _ => True) v (paramsF ns q) ∧ Below w.heap.size w w' := by
 have HS := Lib.hid hS
 clear hS
 obtain ⟨bo, g, r, l, Lb, h⟩ := HS.out
 have c0 : w.cell? ⟨p, 0, none⟩ = some (.slice At ns.length ct) := (blk_cell h.hp 0).trans rfl
 obtain ⟨ad, A4, c4, eA, z0, z1, z2, z3, z4, l4, g4⟩ := at_T101 h.hC q h0 h1
 have e0 := eq_true h0
 have e1 := eq_true h1
 have hkq := hk (rd_T101 ns q) (rd24_mem ns q h0 h1)
 obtain ⟨kl, hkl⟩ : ∃ kl, kl = (rd_T101 ns q).f4 := ⟨_, rfl⟩
 have hpar : paramsF ns q = parsL ns kl := by rw [hkl]; rfl
 rw [← hkl] at z4 l4 g4 hkq
 rw [hpar]
 clear hkl hpar z0 z1 z2 z3
 have HK := Lib.hid hkq
 have hkl1 := hkq.2
 have HG4 := Lib.hid g4
 have hn4 := h.hn
 cases eA
 clear h hkq hk g4
 go_enter Try.func54, Try.ntmps54
 go_wp2_with fail
 clear z4 c0 e0 e1
 go_loopg [5, 19] (kl.length + 1) (fun kq v5 v19 W => ∃ i : Nat, v19 = .int .i64 i ∧ i ≤ kl.length ∧ Hid (i + kq = kl.length + 1) ∧ Hid (Kd.R (Kd.int .i64) 3 W w.heap.size (fun _ => True) v5 (parsL ns (kl.take i))) ∧ Hid (Below w.heap.size w W))
 case atStart => exact ⟨0, rfl, Nat.zero_le _, Lib.hid (by omega), Lib.hid (Kd.R_nil _ _ _ _ _), Lib.hid (Below.refl _ _)⟩
 case round =>
  obtain ⟨i, rfl, hi, HN, HR, HB⟩ := hrel
  by_cases hlt : i < kl.length
  ·obtain ⟨adK, eK, y0⟩ := Kd.at_int (Kd.C_below HG4.out HB.out) (i : Int) (by omega) (by omega)
   have hq : rd kl (i : Int) = kl[i] := by simp [rd, hlt]
   rw [hq, Int.toNat_natCast] at y0
   have hin := HK.out.1 kl[i] (List.getElem_mem hlt)
   have hst := parsL_snoc ns kl i hlt
   obtain ⟨kv, hkv⟩ : ∃ kv, kv = kl[i] := ⟨_, rfl⟩
   rw [← hkv] at y0 hin hst
   clear hq hkv
   obtain ⟨bo', g', r', l', Lb', h⟩ := HS.out.below HB.out
   have c0 : wr.cell? ⟨p, 0, none⟩ = some (.slice (some ad) ns.length ct) := (blk_cell h.hp 0).trans rfl
   obtain ⟨ad', A5, c5, eA, x0, x1, x2, x3, x4, l5, g5⟩ := at_T101 h.hC kv hin.1 hin.2
   have hk0 : kdOf ns kv = (rd_T101 ns kv).f0 := rfl
   have hn0 : nOf ns kv = (rd_T101 ns kv).f1 := rfl
   have e0 := eq_true hin.1
   have e1 := eq_true hin.2
   cases eA
   cases eK
   have hl5 : (parsL ns (kl.take i)).length ≤ 4000 := by
    have h1 := HK.out.2
    have h2 : (parsL ns (kl.take i)).length ≤ (kl.take i).length := by unfold parsL; rw [List.length_map]; exact List.length_filter_le _ _
    rw [List.length_take] at h2
    omega
   obtain ⟨x, hx⟩ : ∃ x, x = rd_T101 ns kv := ⟨_, rfl⟩
   rw [← hx] at x0 x1 x2 x3 x4 l5 g5 hk0 hn0
   obtain ⟨k, n, at_, tx, kl2⟩ := x
   dsimp only at x0 x1 x2 x3 x4 l5 g5 hk0 hn0
   obtain ⟨pl, hpl⟩ : ∃ pl, pl = parsL ns (kl.take i) := ⟨_, rfl⟩
   rw [← hpl] at HR hst hl5
   rw [hk0, hn0] at hst
   clear h hx hpl hin hk0 hn0 g5
   have HST := Lib.hid hst
   have HL5 := Lib.hid hl5
   clear hst hl5
   by_cases hk4 : k = 4
   ·subst hk4
    go_wp2_with (((with_reducible refine gate_builtin (b := .append) (xs := #[.tmp 34, .tmp 37]) rfl ?_); at_builtin; refine Stq.out ?_))
    unfold Stq
    refine Kd.R_append (Kd.int .i64) (w0 := w) w.heap.size rfl (.tmp 34) (.tmp 37) 70 3 (.int .i64 0) 8 rfl Try.underlying70 info3 rfl (by decide) (by omega) u5 pl n [.int .i64 n] (fun _ => True) (fun _ => False) rfl (by simp [Act.eval]) rfl (fun _ hk => hk.elim) (fun _ _ => trivial) (Kd.R_alloc HR.out _) (below_alloc HB.out _) (by have := HB.out.size; simp; omega) (by have := HL5.out; omega) ?_
    intro v9 w9 ho_ hb_ hg_ hat_
    have HO := Lib.hid ho_
    have HB9 := Lib.hid hb_
    clear ho_ hb_ hg_ hat_ x0 x1 x2 x3 x4 c0 y0
    go_wp2_with fail
    go_roundg (gk - 1)
    case measure => have := HN.out; omega
    case rel => exact ⟨i + 1, by norm_cast, hlt, Lib.hid (by have := HN.out; omega), Lib.hid (by rw [HST.out, if_pos trivial]; exact HO.out), HB9⟩
   ·have hst := HST.out
    rw [if_neg hk4] at hst
    have HST' := Lib.hid hst
    clear hst HST
    go_wp2_with fail
    go_roundg (gk - 1)
    case measure => have := HN.out; omega
    case rel => exact ⟨i + 1, by norm_cast, hlt, Lib.hid (by have := HN.out; omega), Lib.hid (by rw [HST'.out]; exact Kd.R_alloc HR.out _), Lib.hid (below_alloc HB.out _)⟩
  ·obtain rfl : i = kl.length := by omega
   rw [List.take_length] at HR
   go_wp2_with fail
   go_ret
   exact ⟨u5, rfl, HR.out, HB.out⟩
theorem c_one (w : World) (x : Int) : (Kd.int .i64).C (w.alloc (.cells #[.int .i64 x] 3)) (some ⟨w.heap.size, 0, none⟩) [x].length [x] :=
 Kd.C_of_reads (d := 0) ⟨rfl, by simp, fun _ => ⟨_, rfl, fun j hj => by
  obtain rfl : j = 0 := by simpa using hj
  exact (blk_cell (blk_new w _) 0).trans rfl⟩⟩
theorem eq_one (l : List Int) : slices_Equal_int_int.f 3 l [1] = some (decide (l = [1])) := by
 unfold slices_Equal_int_int.f
 match l with
 | [] => simp
 | [x] =>
  simp [slices_Equal_int_int.l0, rd]
  by_cases h : x = 1
  ·simp [h, wrap64, slices_Equal_int_int.l0]
  ·simp [h]
 | x :: y :: l =>
  rw [if_neg (by simp only [List.length_cons, List.length_nil]; omega)]
  simp
def plainF (ns : List S101) (p : Int) : Bool := decide (paramsF ns p = [1]) && decide (nOf ns p = 1)
set_option maxRecDepth 100000 in
set_option maxHeartbeats 8000000 in
theorem plain_is (p : Nat) (At : Option Addr) (ct : Nat) (ns : List S101) (root : Int) (ol : List Int) (q : Int) (h0 : 0 ≤ q) (h1 : q < ns.length) (hk : KidsIn ns) (w : World) (hS : Sc p At ct ns root ol w) :
  Calls Try.prog 81 #[.pointer (some ⟨p, 0, none⟩), .int .i64 q] w fun e w' => e = .returned (.bool (plainF ns q)) ∧ Below w.heap.size w w' := by
 have HP := Lib.hid (params_is p At ct ns root ol q h0 h1 hk w hS)
 have HS := Lib.hid hS
 clear hS hk
 unfold plainF
 obtain ⟨pl, hpl⟩ : ∃ pl, pl = paramsF ns q := ⟨_, rfl⟩
 obtain ⟨n, hn⟩ : ∃ n, n = nOf ns q := ⟨_, rfl⟩
 obtain ⟨b, hb⟩ : ∃ b, b = decide (pl = [1]) := ⟨_, rfl⟩
 rw [← hpl] at HP ⊢
 rw [← hn, ← hb]
 have HN := Lib.hid hn
 have HQ := Lib.hid (hb ▸ eq_one pl)
 clear hpl hn hb
 go_enter Try.func81, Try.ntmps81
 go_wp2_with fail
 refine HP.out.mono ?_
 rintro e_ w1 ⟨v, rfl, hr, hb_⟩
 obtain ⟨A, c, rfl, hle, hC⟩ := Kd.R_reads hr
 have HB1 := Lib.hid hb_
 have HC := Lib.hid hC
 clear hb_ hC hr
 go_wp2_with fail
 refine (slices_Equal_int_int.calls 3 A c pl _ 1 [1] b _ (Kd.C_alloc HC.out _) hle (c_one w1 1) (Nat.le_refl _) HQ.out).mono ?_
 rintro e_ w2 ⟨rfl, hd_⟩
 have HB2 : Hid (Below w.heap.size w w2) := Lib.hid (below_step (below_alloc HB1.out _) hd_.below)
 clear hd_
 obtain ⟨bo, g, r, l, Lb, h⟩ := HS.out.below HB2.out
 have c0 : w2.cell? ⟨p, 0, none⟩ = some (.slice At ns.length ct) := (blk_cell h.hp 0).trans rfl
 obtain ⟨ad, A4, c4, eA, z0, z1, z2, z3, z4, l4, g4⟩ := at_T101 h.hC q h0 h1
 have hn' : n = (rd_T101 ns q).f1 := HN.out
 rw [← hn'] at z1
 have e0 := eq_true h0
 have e1 := eq_true h1
 cases eA
 clear h z0 z2 z3 z4 l4 g4 hn'
 cases b
 ·go_wp2_with fail
  go_ret
  exact ⟨by simp, HB2.out⟩
 ·by_cases hn1 : n = 1
  ·subst hn1
   go_wp2_with fail
   go_ret
   exact ⟨by simp, HB2.out⟩
  ·go_wp2_with fail
   go_ret
   exact ⟨by simp [hn1], HB2.out⟩
def arithB (s : Nm) : Bool := s == [43] || s == [45] || s == [42] || s == [47] || s == [37]
def exprF (ns : List S101) (ol : List Int) (place : Int) : Int :=
 if kdOf ns place = 20 ∨ kdOf ns place = 23 ∨ kdOf ns place = 24 then 1
 else if kdOf ns place = 21 then 2
 else if kdOf ns place = 25 then 4
 else if kdOf ns place = 22 then kindF ns ol place (nmOf ns place)
 else if kdOf ns place = 26 ∨ kdOf ns place = 27 then (if arithB (nmOf ns place) = true then 1 else 2)
 else 0
def typK (k : Int) (kd : Int) (ar : Bool) : Int :=
 if k = 20 ∨ k = 23 ∨ k = 24 then 1 else if k = 21 then 2 else if k = 25 then 4 else if k = 22 then kd else if k = 26 ∨ k = 27 then (if ar = true then 1 else 2) else 0
theorem exprF_eq (ns : List S101) (ol : List Int) (place : Int) : exprF ns ol place = typK (kdOf ns place) (kindF ns ol place (nmOf ns place)) (arithB (nmOf ns place)) := rfl
theorem KidsIn.size {ns : List S101} {p : Nat} {At : Option Addr} {ct : Nat} {root : Int} {ol : List Int} {w : World} (h : Sc p At ct ns root ol w) {i : Int} (h0 : 0 ≤ i) (h1 : i < ns.length) : (rd_T101 ns i).f3.size ≤ 140737488351232 := by
 obtain ⟨bo, g, r, l, Lb, h⟩ := h
 exact h.hs _ (rd24_mem ns i h0 h1)
set_option maxRecDepth 100000 in
set_option maxHeartbeats 8000000 in
theorem expr_is (p : Nat) (At : Option Addr) (ct : Nat) (ns : List S101) (root : Int) (ol : List Int) (q : Int) (h0 : 0 ≤ q) (h1 : q < ns.length) (w : World) (hS : Sc p At ct ns root ol w) :
  Calls Try.prog 56 #[.pointer (some ⟨p, 0, none⟩), .int .i64 q] w fun e w' => e = .returned (.int .i64 (exprF ns ol q)) ∧ Below w.heap.size w w' := by
 have hsz := KidsIn.size hS h0 h1
 have HKI := Lib.hid (fun (w' : World) (hb : Below w.heap.size w w') => kind_is p At ct ns root ol q h0 h1 _ hsz w' (hS.below hb))
 rw [exprF_eq]
 obtain ⟨kr, hkr⟩ : ∃ kr, kr = kindF ns ol q (nmOf ns q) := ⟨_, rfl⟩
 rw [show (rd_T101 ns q).f3.data.toList = nmOf ns q from rfl, ← hkr] at HKI
 rw [← hkr]
 obtain ⟨bo, g, r, l, Lb, h⟩ := hS
 have c0 : w.cell? ⟨p, 0, none⟩ = some (.slice At ns.length ct) := (blk_cell h.hp 0).trans rfl
 obtain ⟨ad, A4, c4, eA, z0, z1, z2, z3, z4, l4, g4⟩ := at_T101 h.hC q h0 h1
 have e0 := eq_true h0
 have e1 := eq_true h1
 have hk0 : kdOf ns q = (rd_T101 ns q).f0 := rfl
 have ht0 : nmOf ns q = (rd_T101 ns q).f3.data.toList := rfl
 rw [hk0, ht0]
 obtain ⟨x, hx⟩ : ∃ x, x = rd_T101 ns q := ⟨_, rfl⟩
 rw [← hx] at z0 z1 z2 z3 z4 HKI ⊢
 obtain ⟨k, n, at_, tx, kl⟩ := x
 dsimp only at z0 z1 z2 z3 z4 HKI ⊢
 rw [← hx] at l4 g4
 dsimp only at l4 g4
 cases eA
 have hbl : ∀ o, Below w.heap.size w (w.alloc o) := fun o => below_alloc (Below.refl _ _) o
 have HBL := Lib.hid hbl
 rw [← toList_data]
 clear h hk0 ht0 hx hkr g4 hbl hsz
 by_cases k20 : k = 20
 ·subst k20
  go_enter Try.func56, Try.ntmps56
  go_wp2_with fail
  go_ret
  exact ⟨rfl, HBL.out _⟩
 by_cases k23 : k = 23
 ·subst k23
  go_enter Try.func56, Try.ntmps56
  go_wp2_with fail
  go_ret
  exact ⟨rfl, HBL.out _⟩
 by_cases k101 : k = 24
 ·subst k101
  go_enter Try.func56, Try.ntmps56
  go_wp2_with fail
  go_ret
  exact ⟨rfl, HBL.out _⟩
 by_cases k21 : k = 21
 ·subst k21
  go_enter Try.func56, Try.ntmps56
  go_wp2_with fail
  go_ret
  exact ⟨rfl, HBL.out _⟩
 by_cases k25 : k = 25
 ·subst k25
  go_enter Try.func56, Try.ntmps56
  go_wp2_with fail
  go_ret
  exact ⟨rfl, HBL.out _⟩
 by_cases k22 : k = 22
 ·subst k22
  go_enter Try.func56, Try.ntmps56
  go_wp2_with fail
  refine (HKI.out _ (HBL.out _)).mono ?_
  rintro e_ w1 ⟨rfl, hb_⟩
  have HB1 := Lib.hid (below_step (HBL.out _) hb_)
  clear hb_
  go_wp2_with fail
  go_ret
  exact ⟨rfl, HB1.out⟩
 have hT : typK k kr (arithB tx.toList) = if k = 26 ∨ k = 27 then (if arithB tx.toList = true then 1 else 2) else 0 := by
  unfold typK
  rw [if_neg (by omega), if_neg k21, if_neg k25, if_neg k22]
 rw [hT]
 clear hT HKI
 by_cases k67 : k = 26 ∨ k = 27
 ·rw [if_pos k67]
  unfold arithB
  cases t1 : tx.toList == [43] with
  | true =>
   rcases k67 with rfl | rfl
   all_goals
    go_enter Try.func56, Try.ntmps56
    go_wp2_with fail
    go_ret
    exact ⟨rfl, HBL.out _⟩
  | false =>
  cases t2 : tx.toList == [45] with
  | true =>
   rcases k67 with rfl | rfl
   all_goals
    go_enter Try.func56, Try.ntmps56
    go_wp2_with fail
    go_ret
    exact ⟨rfl, HBL.out _⟩
  | false =>
  cases t3 : tx.toList == [42] with
  | true =>
   rcases k67 with rfl | rfl
   all_goals
    go_enter Try.func56, Try.ntmps56
    go_wp2_with fail
    go_ret
    exact ⟨rfl, HBL.out _⟩
  | false =>
  cases t4 : tx.toList == [47] with
  | true =>
   rcases k67 with rfl | rfl
   all_goals
    go_enter Try.func56, Try.ntmps56
    go_wp2_with fail
    go_ret
    exact ⟨rfl, HBL.out _⟩
  | false =>
  cases t5 : tx.toList == [37] with
  | true =>
   rcases k67 with rfl | rfl
   all_goals
    go_enter Try.func56, Try.ntmps56
    go_wp2_with fail
    go_ret
    exact ⟨rfl, HBL.out _⟩
  | false =>
   rcases k67 with rfl | rfl
   all_goals
    go_enter Try.func56, Try.ntmps56
    go_wp2_with fail
    go_ret
    exact ⟨rfl, HBL.out _⟩
 ·rw [if_neg k67]
  have k26 : k ≠ 26 := fun e => k67 (.inl e)
  have k27 : k ≠ 27 := fun e => k67 (.inr e)
  clear k67
  go_enter Try.func56, Try.ntmps56
  go_wp2_with fail
  go_ret
  exact ⟨rfl, HBL.out _⟩
end Go.Proofs.Ytkhlfdcjgooogaa.P
