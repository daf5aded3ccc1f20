import Derived.Test.YtkhlfdcjgooogaaHeapC
import Derived.Test.YtkhlfdcjgooogaaVaE
import Derived.Test.YtkhlfdcjgooogaaVaC
import Derived.Test.YtkhlfdcjgooogaaTrB
set_option linter.unusedVariables false
set_option linter.unusedSimpArgs false
namespace Go.Proofs.Ytkhlfdcjgooogaa.P
open Go.RowKit Go.Proofs.YtkhlfdcjgooogaaW.PrintWords Go.Proofs.YtkhlfdcjgooogaaW.PrintLast Go.Proofs.YtkhlfdcjgooogaaW.PrintMore
set_option maxRecDepth 100000 in
set_option maxHeartbeats 8000000 in
theorem Lookup_is (At : Option Addr) (ct : Nat) (ns : List S101) (root : Int) (ol : List Int) (hR : Rt ns root ol) (hb : rtB ns root true) (q : Int) (h0 : 0 ≤ q) (h1 : q < ns.length) (s : ByteArray) (hs : s.size ≤ 140737488351232) (w : World) (hC : Kd.C k101 w At ns.length ns) (hct : ns.length ≤ ct) (hE : Env w) :
  Calls Try.prog 58 #[.agg #[.slice At ns.length ct, .int .i64 root], .int .i64 q, .string s] w fun e w' => e = .returned (.int .i64 (meansF ns ol q s.data.toList)) ∧ Below w.heap.size w w' := by
 obtain ⟨W0, hW0⟩ : ∃ W0, W0 = w.alloc (.cells #[.slice At ns.length ct, .int .i64 root] 69) := ⟨_, rfl⟩
 have HB0 := Lib.hid (box_is At ct ns root w W0 hW0).1
 have X0 := Lib.hid (box_is At ct ns root w W0 hW0).2
 have HW0 := Lib.hid hW0
 have HR := Lib.hid hR
 have HC := Lib.hid hC
 have HE := Lib.hid hE
 have HRB := Lib.hid hb
 clear hW0 hR hC hE hb
 go_enter Try.func58, Try.ntmps58
 go_wp2_with fail
 rw [← HW0.out]
 refine (within_is At ct ns root HRB.out q h0 h1 W0 (Kd.C_below HC.out HB0.out) hct (HE.out.below HB0.out HE.out.six)).mono ?_
 rintro e_ W1 ⟨rfl, hb_⟩
 have HB1 := Lib.hid (below_step HB0.out hb_)
 have X1 := Lib.hid (blk_below X0.out hb_)
 clear hb_ HB0 X0 HW0
 have c0 : W1.cell? ⟨w.heap.size, 0, none⟩ = some (.slice At ns.length ct) := (blk_cell X1.out 0).trans rfl
 have c1 : W1.cell? ⟨w.heap.size, 1, none⟩ = some (.int .i64 root) := (blk_cell X1.out 1).trans rfl
 go_wp2_with fail
 refine (learn_rt At ct ns root ol HR.out W1 (Kd.C_below HC.out HB1.out) hct).mono ?_
 rintro e_ W2 ⟨p, rfl, hs_, hb_⟩
 have HB2 := Lib.hid (below_step HB1.out hb_)
 have HX := Lib.hid (means_is p At ct ns root ol q h0 h1 s hs W2 hs_)
 clear hb_ hs_ HB1 X1 c0 c1
 go_wp2_with fail
 refine HX.out.mono ?_
 rintro e_ W3 ⟨rfl, hb_⟩
 have HB3 := Lib.hid (below_step HB2.out hb_)
 clear hb_
 go_wp2_with fail
 go_ret
 exact ⟨rfl, HB3.out⟩
def wV (seeds : List Int) (a : Int × Int) (n i : Int) : Int × Int := if n = 3 then a else if n = 1 ∧ 0 < seeds.length then (1, rd seeds (Int.tmod i seeds.length)) else (n, 0)
def wK (ns : List S101) (ol : List Int) (q i : Int) : Bool := decide ((kdOf ns i = 2 ∨ kdOf ns i = 4 ∨ kdOf ns i = 5) ∧ meansF ns ol q (nmOf ns i) = i)
def worthF (ns : List S101) (ol : List Int) (q : Int) (seeds : List Int) (a : Int × Int) : Nat → List NV
 | 0 => []
 | n + 1 => if wK ns ol q n = true then worthF ns ol q seeds a n ++ [((rd_T101 ns n).f3, wV seeds a (nOf ns n) n)] else worthF ns ol q seeds a n
theorem worthF_len (ns : List S101) (ol : List Int) (q : Int) (seeds : List Int) (a : Int × Int) : ∀ n, (worthF ns ol q seeds a n).length ≤ n
 | 0 => Nat.le_refl _
 | n + 1 => by
  have := worthF_len ns ol q seeds a n
  unfold worthF
  split
  ·simp; omega
  ·omega
theorem kNV_mkM (w : World) (base : Nat) (ok : Nat → Prop) (x : NV) : kNV.M w base ok x [.string x.1, .int .i64 x.2.1, .int .i64 x.2.2] :=
 ⟨[.string x.1], [.int .i64 x.2.1, .int .i64 x.2.2], rfl, rfl, ⟨[.int .i64 x.2.1], [.int .i64 x.2.2], rfl, rfl, rfl⟩⟩
theorem infoNV : (Try.prog.info? 114).map (fun i => (i.zero, i.size, i.bytes)) = some (some (.agg #[.string ⟨#[]⟩, .int .i64 0, .int .i64 0]), 3, 32) := by kernel_rfl
theorem undNV : Try.prog.underlying 77 = some (.slice 114) := by kernel_rfl
set_option maxRecDepth 100000 in
set_option maxHeartbeats 8000000 in
theorem worth_is (At : Option Addr) (ct : Nat) (ns : List S101) (root : Int) (ol : List Int) (hR : Rt ns root ol) (hb : rtB ns root true) (q : Int) (h0 : 0 ≤ q) (h1 : q < ns.length) (As : Option Addr) (cs : Nat) (seeds : List Int) (hsl : seeds.length ≤ 60) (a : Int × Int) (w : World) (hC : Kd.C k101 w At ns.length ns) (hct : ns.length ≤ ct) (hE : Env w) (hS : Kd.C (Kd.int .i64) w As seeds.length seeds) (hcs : seeds.length ≤ cs) :
  Calls Try.prog 32 #[.agg #[.slice At ns.length ct, .int .i64 root], .int .i64 q, .slice As seeds.length cs, .agg #[.int .i64 a.1, .int .i64 a.2]] w fun e w' => ∃ v : Value, e = .returned v ∧ Kd.R kNV 114 w' w.heap.size (fun _ => True) v (worthF ns ol q seeds a ns.length) ∧ Below w.heap.size w w' := by
 obtain ⟨W0, hW0⟩ : ∃ W0, W0 = (w.alloc (.cells #[.slice At ns.length ct, .int .i64 root] 69)).alloc (.cells #[.int .i64 a.1, .int .i64 a.2] 23) := ⟨_, rfl⟩
 have hb0 : Below w.heap.size w W0 := by rw [hW0]; exact below_alloc (below_alloc (Below.refl _ _) _) _
 have x0 : W0.heap[w.heap.size]? = some (.cells #[.slice At ns.length ct, .int .i64 root] 69 (0, 0)) := by rw [hW0]; exact blk_alloc (blk_new w _) _
 have x1 : W0.heap[w.heap.size + 1]? = some (.cells #[.int .i64 a.1, .int .i64 a.2] 23 (0, 0)) := by
  have := blk_new (w.alloc (.cells #[.slice At ns.length ct, .int .i64 root] 69)) (.cells #[.int .i64 a.1, .int .i64 a.2] 23)
  rw [show (w.alloc (.cells #[.slice At ns.length ct, .int .i64 root] 69)).heap.size = w.heap.size + 1 from by simp] at this
  rw [hW0]; exact this
 have hsz0 : w.heap.size + 2 ≤ W0.heap.size := by rw [hW0]; simp
 have HB0 := Lib.hid hb0
 have X0 := Lib.hid x0
 have X1 := Lib.hid x1
 have HZ0 := Lib.hid hsz0
 have HW0 := Lib.hid hW0
 have HC := Lib.hid hC
 have HS := Lib.hid hS
 have HE := Lib.hid hE
 have HLK := Lib.hid (fun (s : ByteArray) hs (W : World) (hbl : Below w.heap.size w W) => Lookup_is At ct ns root ol hR hb q h0 h1 s hs W (Kd.C_below hC hbl) hct (hE.below hbl hE.six))
 have HF := Lib.hid hR.fit
 have HN0 := Lib.hid hR.fit.1
 clear hb0 x0 x1 hsz0 hW0 hC hS hE hR hb
 go_enter Try.func32, Try.ntmps32
 go_wp2_with fail
 rw [← HW0.out]
 go_loopg [9, 10] (ns.length + 1) (fun kq v9 v10 W => ∃ i : Nat, v10 = .int .i64 i ∧ i ≤ ns.length ∧ Hid (i + kq = ns.length + 1) ∧ Hid (Kd.R kNV 114 W (w.heap.size + 2) (fun _ => True) v9 (worthF ns ol q seeds a i)) ∧ Hid (Below w.heap.size w W) ∧ Hid (w.heap.size + 2 ≤ W.heap.size) ∧ Hid (W.heap[w.heap.size]? = some (.cells #[.slice At ns.length ct, .int .i64 root] 69 (0, 0))) ∧ Hid (W.heap[w.heap.size + 1]? = some (.cells #[.int .i64 a.1, .int .i64 a.2] 23 (0, 0))))
 case atStart => exact ⟨0, rfl, Nat.zero_le _, Lib.hid (by omega), Lib.hid (Kd.R_nil _ _ _ _ _), HB0, HZ0, X0, X1⟩
 case round =>
  obtain ⟨i, rfl, hi, HN, HR, HB, HZ, X0, X1⟩ := hrel
  have hn4 := HN0.out
  have c0 : wr.cell? ⟨w.heap.size, 0, none⟩ = some (.slice At ns.length ct) := (blk_cell X0.out 0).trans rfl
  have c1 : wr.cell? ⟨w.heap.size, 1, none⟩ = some (.int .i64 root) := (blk_cell X0.out 1).trans rfl
  by_cases hlt : i < ns.length
  ·obtain ⟨ad, A4, c4, eA, z0, z1, z2, z3, z4, l4, g4⟩ := at_T101 (Kd.C_below HC.out HB.out) (i : Int) (by omega) (by omega)
   rw [Int.toNat_natCast] at z0 z1 z2 z3 z4
   have hlen := worthF_len ns ol q seeds a i
   have hst : worthF ns ol q seeds a (i + 1) = if wK ns ol q i = true then worthF ns ol q seeds a i ++ [((rd_T101 ns i).f3, wV seeds a (nOf ns i) i)] else worthF ns ol q seeds a i := rfl
   have hsz : (rd_T101 ns i).f3.size ≤ 140737488351232 := (HF.out.2 _ (rd24_mem ns i (by omega) (by omega))).2.2
   have hk0 : kdOf ns i = (rd_T101 ns i).f0 := rfl
   have hn0 : nOf ns i = (rd_T101 ns i).f1 := rfl
   have ht0 : nmOf ns i = (rd_T101 ns i).f3.data.toList := rfl
   have hwk : wK ns ol q i = decide ((kdOf ns i = 2 ∨ kdOf ns i = 4 ∨ kdOf ns i = 5) ∧ meansF ns ol q (nmOf ns i) = i) := rfl
   rw [hk0, ht0] at hwk
   rw [hn0] at hst
   obtain ⟨x, hx⟩ : ∃ x, x = rd_T101 ns i := ⟨_, rfl⟩
   rw [← hx] at z0 z1 z2 z3 z4 l4 g4 hst hsz hwk
   obtain ⟨k, n, at_, tx, kl⟩ := x
   dsimp only at z0 z1 z2 z3 z4 l4 g4 hst hsz hwk
   obtain ⟨pl, hpl⟩ : ∃ pl, pl = worthF ns ol q seeds a i := ⟨_, rfl⟩
   rw [← hpl] at HR hst hlen
   obtain ⟨kk, hkk⟩ : ∃ kk, kk = wK ns ol q i := ⟨_, rfl⟩
   rw [← hkk] at hst hwk
   have HST := Lib.hid hst
   have HWK := Lib.hid hwk
   have HL := Lib.hid (show pl.length ≤ 4000 by omega)
   have X2 := Lib.hid (blk_new wr (.cells #[.int .i64 k, .int .i64 n, .int .i64 at_, .string tx, .slice A4 kl.length c4] 101))
   have c0a := pw_cell_below (below_alloc (Below.refl wr.heap.size wr) (.cells #[.int .i64 k, .int .i64 n, .int .i64 at_, .string tx, .slice A4 kl.length c4] 101)) c0
   have c1a := pw_cell_below (below_alloc (Below.refl wr.heap.size wr) (.cells #[.int .i64 k, .int .i64 n, .int .i64 at_, .string tx, .slice A4 kl.length c4] 101)) c1
   cases eA
   clear hx hpl hkk hst hwk hk0 hn0 ht0 g4 hlen
   by_cases hk : k = 2 ∨ k = 4 ∨ k = 5
   ·have HK := Lib.hid hk
    have hmem : Hid (k = 2 ∨ k = 4 ∨ k = 5) := HK
    rcases hk with rfl | rfl | rfl
    all_goals (
     go_wp2_with fail
     refine (HLK.out tx hsz _ (below_alloc HB.out _)).mono ?_
     rintro e_ W1 ⟨rfl, hb_⟩
     have HB1 := Lib.hid (below_step (below_alloc HB.out _) hb_)
     have HBR1 := Lib.hid (below_step (below_alloc (Below.refl wr.heap.size wr) (.cells #[.int .i64 _, .int .i64 n, .int .i64 at_, .string tx, .slice A4 kl.length c4] 101)) hb_)
     have nd : Hid (W1.heap[wr.heap.size]? = _) := Lib.hid (blk_below X2.out hb_)
     have Y0 := Lib.hid (blk_below (blk_alloc X0.out _) hb_)
     have Y1 := Lib.hid (blk_below (blk_alloc X1.out _) hb_)
     have HR1 := Lib.hid (Kd.R_below (Kd.R_alloc HR.out _) hb_)
     have HZ1 : Hid (w.heap.size + 2 ≤ W1.heap.size) := Lib.hid (by have := HZ.out; have := hb_.size; simp at this; omega)
     obtain ⟨gn, hgn⟩ : ∃ gn, gn = wr.heap.size := ⟨_, rfl⟩
     have HGN : Hid (w.heap.size + 2 ≤ gn) := Lib.hid (by rw [hgn]; exact HZ.out)
     rw [← hgn] at nd ⊢
     clear hb_ c0 c1 c0a c1a z0 z1 z2 z3 z4 hgn
     have n0 : W1.cell? ⟨gn, 0, none⟩ = some (.int .i64 _) := (blk_cell nd.out 0).trans rfl
     have n1 : W1.cell? ⟨gn, 1, none⟩ = some (.int .i64 n) := (blk_cell nd.out 1).trans rfl
     have n3 : W1.cell? ⟨gn, 3, none⟩ = some (.string tx) := (blk_cell nd.out 3).trans rfl
     obtain ⟨mm, hmm⟩ : ∃ mm, mm = meansF ns ol q tx.data.toList := ⟨_, rfl⟩
     rw [← hmm] at HWK ⊢
     clear hmm
     by_cases hmi : mm = (i : Int)
     ·subst hmi
      have hkt : kk = true := by rw [HWK.out]; simp
      have hst := HST.out
      rw [if_pos hkt] at hst
      have HST1 := Lib.hid hst
      clear hst hkt HWK HST
      go_wp2_with fail
      refine (value_Zero.calls n n 0 W1 rfl).mono ?_
      rintro e_ W2 ⟨rfl, hb_⟩
      have HB2 := Lib.hid (below_step HB1.out hb_)
      have HBR2 := Lib.hid (below_step HBR1.out hb_)
      have nd2 := Lib.hid (blk_below nd.out hb_)
      have Y12 := Lib.hid (blk_below Y1.out hb_)
      have HR2 := Lib.hid (Kd.R_below HR1.out hb_)
      have HZ2 : Hid (w.heap.size + 2 ≤ W2.heap.size) := Lib.hid (Nat.le_trans HZ1.out hb_.size)
      clear hb_ n0 n1 n3 nd Y1 Y0 HR1 HZ1 HBR1 HB1
      have n1 := pw_cell_below (below_alloc (Below.refl W2.heap.size W2) (.cells #[.int .i64 n, .int .i64 0] 23)) ((blk_cell nd2.out 1).trans rfl : W2.cell? ⟨gn, 1, none⟩ = some (.int .i64 n))
      have n3 := pw_cell_below (below_alloc (Below.refl W2.heap.size W2) (.cells #[.int .i64 n, .int .i64 0] 23)) ((blk_cell nd2.out 3).trans rfl : W2.cell? ⟨gn, 3, none⟩ = some (.string tx))
      by_cases hn3 : n = 3
      ·subst hn3
       rw [show wV seeds a 3 i = a from if_pos rfl] at HST1
       have y0 := pw_cell_below (below_alloc (Below.refl W2.heap.size W2) (.cells #[.int .i64 3, .int .i64 0] 23)) ((blk_cell Y12.out 0).trans rfl : W2.cell? ⟨w.heap.size + 1, 0, none⟩ = some (.int .i64 a.1))
       have y1 := pw_cell_below (below_alloc (Below.refl W2.heap.size W2) (.cells #[.int .i64 3, .int .i64 0] 23)) ((blk_cell Y12.out 1).trans rfl : W2.cell? ⟨w.heap.size + 1, 1, none⟩ = some (.int .i64 a.2))
       have n3' := pw_cell_below (below_alloc (Below.refl W2.heap.size W2) (.cells #[.int .i64 a.1, .int .i64 a.2] 23)) ((blk_cell nd2.out 3).trans rfl : W2.cell? ⟨gn, 3, none⟩ = some (.string tx))
       go_wp2_with (((with_reducible refine gate_builtin (b := .append) (xs := #[.tmp 70, .tmp 75]) rfl ?_); at_builtin; refine Stq.out ?_))
       unfold Stq
       refine Kd.R_append kNV (w0 := wr) (w.heap.size + 2) rfl (.tmp 70) (.tmp 75) 77 114 (.agg #[.string ⟨#[]⟩, .int .i64 0, .int .i64 0]) 32 rfl undNV infoNV rfl (by decide) (by omega) u9 pl ((tx, a.1, a.2) : NV) [.string tx, .int .i64 (a.1), .int .i64 (a.2)] (fun _ => True) (fun _ => False) rfl (by simp [Act.eval]) (kNV_mkM _ _ _ ((tx, a.1, a.2) : NV)) (fun _ hk => hk.elim) (fun _ _ => trivial) (Kd.R_below HR2.out (below_alloc (Below.refl W2.heap.size W2) _)) ((below_step HBR2.out (below_alloc (Below.refl W2.heap.size W2) _)).mono HZ.out) (by have := HZ2.out; simp; omega) (by have := HL.out; omega) ?_
       intro v9 w9 ho_ hb_ hg_ hat_
       have HO := Lib.hid ho_
       have HB9 := Lib.hid hb_
       clear ho_ hb_ hg_ hat_
       go_wp2_with fail
       go_roundg (gk - 1)
       case measure => have := HN.out; omega
       case rel =>
        refine ⟨i + 1, by norm_cast, hlt, Lib.hid (by have := HN.out; omega), Lib.hid ?_, Lib.hid (HB.out.trans (HB9.out.mono (by omega))), Lib.hid (Nat.le_trans HZ.out HB9.out.size), Lib.hid ((HB9.out.block _ (by omega)).trans X0.out), Lib.hid ((HB9.out.block _ (by omega)).trans X1.out)⟩
        rw [HST1.out]
        exact HO.out
      by_cases hn1 : n = 1 ∧ 0 < seeds.length
      ·obtain ⟨rfl, hsp⟩ := hn1
       rw [show wV seeds a 1 i = (1, rd seeds (Int.tmod i seeds.length)) from by rw [wV, if_neg (by decide), if_pos ⟨rfl, hsp⟩]] at HST1
       have hm0 : 0 ≤ Int.tmod (i : Int) seeds.length := Int.tmod_nonneg _ (by omega)
       have hm1 : Int.tmod (i : Int) seeds.length < seeds.length := Int.tmod_lt_of_pos _ (by omega)
       obtain ⟨adS, eS, ys⟩ := Kd.at_int (Kd.C_alloc (Kd.C_below HS.out HB2.out) (.cells #[.int .i64 1, .int .i64 0] 23)) (Int.tmod (i : Int) seeds.length) hm0 hm1
       cases eS
       obtain ⟨mi, hmi⟩ : ∃ mi, mi = Int.tmod (i : Int) seeds.length := ⟨_, rfl⟩
       have hmi2 : Int.tmod (i : Int) seeds.length = mi := hmi.symm
       rw [← hmi] at ys hm0 hm1 HST1
       obtain ⟨sv, hsv⟩ : ∃ sv, sv = rd seeds mi := ⟨_, rfl⟩
       rw [← hsv] at ys HST1
       have e0 := eq_true hm0
       have e1 := eq_true hm1
       have hsp' : (0 : Int) < seeds.length := by omega
       have hsp2 : ¬ (seeds.length : Int) = 0 := by omega
       clear hmi hsv
       have n3' := pw_cell_below (below_alloc (Below.refl W2.heap.size W2) (.cells #[.int .i64 1, .int .i64 sv] 23)) ((blk_cell nd2.out 3).trans rfl : W2.cell? ⟨gn, 3, none⟩ = some (.string tx))
       have n1' := pw_cell_below (below_alloc (Below.refl W2.heap.size W2) (.cells #[.int .i64 1, .int .i64 sv] 23)) ((blk_cell nd2.out 1).trans rfl : W2.cell? ⟨gn, 1, none⟩ = some (.int .i64 1))
       go_wp2_with (((with_reducible refine gate_builtin (b := .append) (xs := #[.tmp 70, .tmp 75]) rfl ?_); at_builtin; refine Stq.out ?_))
       unfold Stq
       refine Kd.R_append kNV (w0 := wr) (w.heap.size + 2) rfl (.tmp 70) (.tmp 75) 77 114 (.agg #[.string ⟨#[]⟩, .int .i64 0, .int .i64 0]) 32 rfl undNV infoNV rfl (by decide) (by omega) u9 pl ((tx, 1, sv) : NV) [.string tx, .int .i64 (1), .int .i64 (sv)] (fun _ => True) (fun _ => False) rfl (by simp [Act.eval]) (kNV_mkM _ _ _ ((tx, 1, sv) : NV)) (fun _ hk => hk.elim) (fun _ _ => trivial) (Kd.R_below HR2.out (below_alloc (Below.refl W2.heap.size W2) _)) ((below_step HBR2.out (below_alloc (Below.refl W2.heap.size W2) _)).mono HZ.out) (by have := HZ2.out; simp; omega) (by have := HL.out; omega) ?_
       intro v9 w9 ho_ hb_ hg_ hat_
       have HO := Lib.hid ho_
       have HB9 := Lib.hid hb_
       clear ho_ hb_ hg_ hat_
       go_wp2_with fail
       go_roundg (gk - 1)
       case measure => have := HN.out; omega
       case rel =>
        refine ⟨i + 1, by norm_cast, hlt, Lib.hid (by have := HN.out; omega), Lib.hid ?_, Lib.hid (HB.out.trans (HB9.out.mono (by omega))), Lib.hid (Nat.le_trans HZ.out HB9.out.size), Lib.hid ((HB9.out.block _ (by omega)).trans X0.out), Lib.hid ((HB9.out.block _ (by omega)).trans X1.out)⟩
        rw [HST1.out]
        exact HO.out
      ·rw [show wV seeds a n i = (n, 0) from by rw [wV, if_neg hn3, if_neg hn1]] at HST1
       by_cases h1 : n = 1
       ·have hs0 : ¬ (0 : Int) < seeds.length := fun h => hn1 ⟨h1, by omega⟩
        subst h1
        go_wp2_with (((with_reducible refine gate_builtin (b := .append) (xs := #[.tmp 70, .tmp 75]) rfl ?_); at_builtin; refine Stq.out ?_))
        unfold Stq
        refine Kd.R_append kNV (w0 := wr) (w.heap.size + 2) rfl (.tmp 70) (.tmp 75) 77 114 (.agg #[.string ⟨#[]⟩, .int .i64 0, .int .i64 0]) 32 rfl undNV infoNV rfl (by decide) (by omega) u9 pl ((tx, 1, 0) : NV) [.string tx, .int .i64 (1), .int .i64 (0)] (fun _ => True) (fun _ => False) rfl (by simp [Act.eval]) (kNV_mkM _ _ _ ((tx, 1, 0) : NV)) (fun _ hk => hk.elim) (fun _ _ => trivial) (Kd.R_below HR2.out (below_alloc (Below.refl W2.heap.size W2) _)) ((below_step HBR2.out (below_alloc (Below.refl W2.heap.size W2) _)).mono HZ.out) (by have := HZ2.out; simp; omega) (by have := HL.out; omega) ?_
        intro v9 w9 ho_ hb_ hg_ hat_
        have HO := Lib.hid ho_
        have HB9 := Lib.hid hb_
        clear ho_ hb_ hg_ hat_
        go_wp2_with fail
        go_roundg (gk - 1)
        case measure => have := HN.out; omega
        case rel =>
         refine ⟨i + 1, by norm_cast, hlt, Lib.hid (by have := HN.out; omega), Lib.hid ?_, Lib.hid (HB.out.trans (HB9.out.mono (by omega))), Lib.hid (Nat.le_trans HZ.out HB9.out.size), Lib.hid ((HB9.out.block _ (by omega)).trans X0.out), Lib.hid ((HB9.out.block _ (by omega)).trans X1.out)⟩
         rw [HST1.out]
         exact HO.out
       ·clear hn1
        go_wp2_with (((with_reducible refine gate_builtin (b := .append) (xs := #[.tmp 70, .tmp 75]) rfl ?_); at_builtin; refine Stq.out ?_))
        unfold Stq
        refine Kd.R_append kNV (w0 := wr) (w.heap.size + 2) rfl (.tmp 70) (.tmp 75) 77 114 (.agg #[.string ⟨#[]⟩, .int .i64 0, .int .i64 0]) 32 rfl undNV infoNV rfl (by decide) (by omega) u9 pl ((tx, n, 0) : NV) [.string tx, .int .i64 (n), .int .i64 (0)] (fun _ => True) (fun _ => False) rfl (by simp [Act.eval]) (kNV_mkM _ _ _ ((tx, n, 0) : NV)) (fun _ hk => hk.elim) (fun _ _ => trivial) (Kd.R_below HR2.out (below_alloc (Below.refl W2.heap.size W2) _)) ((below_step HBR2.out (below_alloc (Below.refl W2.heap.size W2) _)).mono HZ.out) (by have := HZ2.out; simp; omega) (by have := HL.out; omega) ?_
        intro v9 w9 ho_ hb_ hg_ hat_
        have HO := Lib.hid ho_
        have HB9 := Lib.hid hb_
        clear ho_ hb_ hg_ hat_
        go_wp2_with fail
        go_roundg (gk - 1)
        case measure => have := HN.out; omega
        case rel =>
         refine ⟨i + 1, by norm_cast, hlt, Lib.hid (by have := HN.out; omega), Lib.hid ?_, Lib.hid (HB.out.trans (HB9.out.mono (by omega))), Lib.hid (Nat.le_trans HZ.out HB9.out.size), Lib.hid ((HB9.out.block _ (by omega)).trans X0.out), Lib.hid ((HB9.out.block _ (by omega)).trans X1.out)⟩
         rw [HST1.out]
         exact HO.out
     ·have hkt : kk = false := by rw [HWK.out]; simp [hmi]
      have hst := HST.out
      rw [hkt, if_neg (by decide)] at hst
      have HST1 := Lib.hid hst
      clear hst hkt HWK HST
      go_wp2_with fail
      go_roundg (gk - 1)
      case measure => have := HN.out; omega
      case rel => exact ⟨i + 1, by norm_cast, hlt, Lib.hid (by have := HN.out; omega), Lib.hid (by rw [HST1.out]; exact HR1.out), HB1, HZ1, Y0, Y1⟩)
   ·have h2 : ¬ k = 2 := fun h => hk (.inl h)
    have h4 : ¬ k = 4 := fun h => hk (.inr (.inl h))
    have h5 : ¬ k = 5 := fun h => hk (.inr (.inr h))
    clear hk
    go_wp2_with fail
    go_roundg (gk - 1)
    case measure => have := HN.out; omega
    case rel => exact ⟨i + 1, by norm_cast, hlt, Lib.hid (by have := HN.out; omega), Lib.hid (by rw [HST.out, if_neg (by rw [HWK.out]; simp [h2, h4, h5])]; exact Kd.R_alloc HR.out _), Lib.hid (below_alloc HB.out _), Lib.hid (by have := HZ.out; simp; omega), Lib.hid (blk_alloc X0.out _), Lib.hid (blk_alloc X1.out _)⟩
  ·obtain rfl : i = ns.length := by omega
   go_wp2_with fail
   go_ret
   exact ⟨u9, rfl, Kd.R_lower HR.out (by omega), HB.out⟩
theorem means_of (ns : List S101) (ol : List Int) (q : Int) (s : Nm) (h : meansF ns ol q s ≠ -1) :
  ∃ d : Nat, meansF ns ol q s = d ∧ d < ns.length ∧ (kdOf ns d = 2 ∨ kdOf ns d = 4 ∨ kdOf ns d = 5) ∧ nmOf ns d = s := by
 unfold meansF at h ⊢
 by_cases h1 : rd ol q = -1
 ·rw [if_pos h1] at h
  exact absurd rfl h
 ·rw [if_neg h1] at h ⊢
  cases e : loF ns ol (rd ol q) ns.length s with
  | some d =>
   obtain ⟨a, b, c⟩ := fstI_range _ _ _ e
   obtain ⟨j, rfl⟩ := Int.eq_ofNat_of_zero_le a
   simp only [Int.toNat_natCast, Bool.and_eq_true, Bool.or_eq_true, decide_eq_true_eq] at c
   exact ⟨j, rfl, by omega, c.1.elim (fun x => .inr (.inl x)) (fun x => .inr (.inr x)), c.2.2⟩
  | none =>
   rw [e] at h
   dsimp only at h ⊢
   cases e2 : glF ns ns.length s with
   | some d =>
    obtain ⟨a, b, c⟩ := fstI_range _ _ _ e2
    obtain ⟨j, rfl⟩ := Int.eq_ofNat_of_zero_le a
    simp only [Int.toNat_natCast, Bool.and_eq_true, decide_eq_true_eq] at c
    exact ⟨j, rfl, by omega, .inl c.1, c.2⟩
   | none =>
    rw [e2] at h
    exact absurd rfl h
theorem worth_find (ns : List S101) (ol : List Int) (q : Int) (seeds : List Int) (a : Int × Int) (s : Nm) (d : Nat) (hd : meansF ns ol q s = d) (hk : kdOf ns d = 2 ∨ kdOf ns d = 4 ∨ kdOf ns d = 5) (hn : nmOf ns d = s) :
  ∀ n : Nat, (d < n → (worthF ns ol q seeds a n).find? (fun x => decide (x.1.data.toList = s)) = some ((rd_T101 ns d).f3, wV seeds a (nOf ns d) d)) ∧ (n ≤ d → (worthF ns ol q seeds a n).find? (fun x => decide (x.1.data.toList = s)) = none)
 | 0 => ⟨fun h => absurd h (by omega), fun _ => rfl⟩
 | n + 1 => by
  obtain ⟨i1, i2⟩ := worth_find ns ol q seeds a s d hd hk hn n
  have hdw : wK ns ol q d = true := by unfold wK; rw [hn]; exact decide_eq_true ⟨hk, hd⟩
  have hnd : nmOf ns d = (rd_T101 ns d).f3.data.toList := rfl
  have hnn : nmOf ns n = (rd_T101 ns n).f3.data.toList := rfl
  unfold worthF
  refine ⟨fun h => ?_, fun h => ?_⟩
  ·by_cases e : n = d
   ·subst e
    rw [if_pos hdw, List.find?_append, i2 (Nat.le_refl _)]
    simp [← hnd, hn]
   ·have := i1 (by omega)
    split
    ·rw [List.find?_append, this]; rfl
    ·exact this
  ·have hno := i2 (by omega)
   by_cases hw : wK ns ol q n = true
   ·rw [if_pos hw, List.find?_append, hno]
    have hm : meansF ns ol q (nmOf ns n) = n := by unfold wK at hw; exact (of_decide_eq_true hw).2
    have : ¬ (rd_T101 ns n).f3.data.toList = s := fun e => by
     rw [← hnn] at e
     rw [e, hd] at hm
     omega
    simp [this]
   ·rw [if_neg hw]; exact hno
theorem worth_name (ns : List S101) (ol : List Int) (q : Int) (seeds : List Int) (a : Int × Int) (ha : a.1 = 3) (s : Nm) (h : kindF ns ol q s ≠ 0) : (nameF (worthF ns ol q seeds a ns.length) s).1 = kindF ns ol q s := by
 unfold kindF at h ⊢
 have hm : meansF ns ol q s ≠ -1 := fun e => by rw [if_pos e] at h; exact h rfl
 rw [if_neg hm] at h ⊢
 obtain ⟨d, hd, hl, hk, hn⟩ := means_of ns ol q s hm
 have := (worth_find ns ol q seeds a s d hd hk hn ns.length).1 hl
 unfold nameF
 rw [this, hd]
 dsimp only
 unfold wV
 by_cases h3 : nOf ns d = 3
 ·rw [if_pos h3, ha, h3]
 ·rw [if_neg h3]
  split
  ·rename_i h1; rw [h1.1]
  ·rfl
def binOk (s : Nm) (r : Int × Int × Int × Bool) : Prop := r.2.2.2 = true → (r.2.2.1 = 0 ∧ r.1 = if arithB s = true then 1 else 2) ∨ (r.2.2.1 = 1 ∧ r.1 = 0 ∧ r.2.1 = 0)
theorem unF_ok (s : ByteArray) (k n : Int) (h : (unF s k n).2.2 = true) : (unF s k n).1 = if arithB s.data.toList = true then 1 else 2 := by
 have e := un_some s k n
 obtain ⟨r, hr⟩ : ∃ r, r = unF s k n := ⟨_, rfl⟩
 rw [← hr] at e h ⊢
 rw [← toList_data]
 simp only [value_Unary.f, value_Unary.j0, number_some, truth_some, Option.bind_some] at e
 obtain ⟨l, hl⟩ : ∃ l, l = s.toList := ⟨_, rfl⟩
 rw [← hl] at e ⊢
 clear hl hr
 split at e
 ·rename_i h0
  subst h0
  split at e
  ·cases e; rfl
  ·rw [if_neg (by decide)] at e; cases e; cases h
 ·rw [if_neg (by decide)] at e
  split at e
  ·rename_i h0
   subst h0
   split at e
   ·cases e; rfl
   ·cases e; cases h
  ·cases e; cases h
theorem same_ok (s : ByteArray) (x : Bool) (r : Int × Int × Int × Bool) (h : value_same.f s x = some r) : binOk s.toList r := by
 obtain ⟨l, hl⟩ : ∃ l, l = s.toList := ⟨_, rfl⟩
 simp only [value_same.f, truth_some, Option.bind_some] at h
 rw [← hl] at h ⊢
 clear hl
 intro hb
 split at h
 ·rename_i h0; subst h0; cases h; exact .inl ⟨rfl, rfl⟩
 ·split at h
  ·rename_i h0; subst h0; cases h; exact .inl ⟨rfl, rfl⟩
  ·cases h; cases hb
theorem same_bind {s : ByteArray} {x : Bool} {r : Int × Int × Int × Bool} (h : ((value_same.f s x).bind fun bt => some (bt.1, bt.2.1, bt.2.2.1, bt.2.2.2)) = some r) : binOk s.toList r := by
 cases e : value_same.f s x with
 | none => rw [e] at h; cases h
 | some y => rw [e] at h; cases h; exact same_ok s x y e
theorem bin_num {l : Nm} (v : Int) (h : arithB l = true) : binOk l (1, v, 0, true) := fun _ => .inl ⟨rfl, by rw [if_pos h]⟩
theorem bin_tru {l : Nm} (v : Int) (h : arithB l = false) : binOk l (2, v, 0, true) := fun _ => .inl ⟨rfl, by rw [h]; rfl⟩
theorem bin_no {l : Nm} (k n e : Int) : binOk l (k, n, e, false) := fun h => by cases h
theorem ints_ok (k : Nat) (s : ByteArray) (x y : Int) (r : Int × Int × Int × Bool) (h : value_ints.f k s x y = some r) : binOk s.toList r := by
 cases k with
 | zero =>
  simp only [value_ints.f, value_ints.j0, number_some, truth_some, Option.bind_some] at h
  obtain ⟨l, hl⟩ : ∃ l, l = s.toList := ⟨_, rfl⟩
  rw [← hl] at h ⊢
  repeat' split at h
  all_goals first
   | (cases h; done)
   | (rename_i h0; subst h0; cases h; exact bin_num _ rfl)
   | (rename_i h0; cases h; rw [h0]; exact bin_num _ rfl)
 | succ k =>
  simp only [value_ints.f, value_ints.j0, number_some, truth_some, Option.bind_some] at h
  split at h
  ·rename_i h0; rw [h0]; cases h; exact bin_num _ rfl
  ·split at h
   ·rename_i h0; rw [h0]; cases h; exact bin_num _ rfl
   ·split at h
    ·rename_i h0; rw [h0]; cases h; exact bin_num _ rfl
    ·have key : (if y = 0 then some (0, 0, 1, true) else if s.toList = ([47] : List UInt8) then some (1, wrap64 (x.tdiv y), 0, true) else some (1, x.tmod y, 0, true)) = some r → arithB s.toList = true → binOk s.toList r := fun h ha => by
      split at h
      ·cases h; exact fun _ => .inr ⟨rfl, rfl, rfl⟩
      ·split at h
       ·cases h; exact bin_num _ ha
       ·cases h; exact bin_num _ ha
     by_cases h47 : s.toList = [47]
     ·rw [if_pos h47, if_pos (by rw [h47]; rfl)] at h
      exact key h (by rw [h47]; rfl)
     ·rw [if_neg h47] at h
      by_cases h37 : s.toList = [37]
      ·rw [if_pos (by rw [h37]; rfl)] at h
       exact key h (by rw [h37]; rfl)
      ·rw [if_neg (by simpa using h37)] at h
       split at h
       ·rename_i h0; rw [h0]; cases h; exact bin_tru _ rfl
       ·split at h
        ·rename_i h0; rw [h0]; cases h; exact bin_tru _ rfl
        ·split at h
         ·rename_i h0; rw [h0]; cases h; exact bin_tru _ rfl
         ·split at h
          ·rename_i h0; rw [h0]; cases h; exact bin_tru _ rfl
          ·exact same_bind h
theorem j1_ok (k : Nat) (s : ByteArray) (b : Bool) (a1 a2 b1 b2 : Int) (r : Int × Int × Int × Bool) (h : value_Binary.j1 k s b a1 a2 b1 b2 = some r) : binOk s.toList r := by
 cases k with
 | zero => simp [value_Binary.j1] at h
 | succ k =>
  simp only [value_Binary.j1, truth_some, Option.bind_some] at h
  split at h
  ·cases h; exact bin_no _ _ _
  ·split at h
   ·rename_i h0
    rw [h0]
    split at h
    ·cases h; exact bin_tru _ rfl
    ·cases h; exact bin_tru _ rfl
   ·split at h
    ·rename_i h0
     rw [h0]
     split at h
     ·cases h; exact bin_tru _ rfl
     ·cases h; exact bin_tru _ rfl
    ·exact same_bind h
theorem j0_ok (k : Nat) (s : ByteArray) (b : Bool) (a1 a2 b1 b2 : Int) (r : Int × Int × Int × Bool) (h : value_Binary.j0 k s b a1 a2 b1 b2 = some r) : binOk s.toList r := by
 cases k with
 | zero => simp [value_Binary.j0] at h
 | succ k =>
  simp only [value_Binary.j0] at h
  split at h
  ·cases e : value_ints.f k s a2 b2 with
   | none => rw [e] at h; cases h
   | some y => rw [e] at h; cases h; exact ints_ok k s _ _ y e
  ·split at h
   ·exact j1_ok _ _ _ _ _ _ _ _ h
   ·exact j1_ok _ _ _ _ _ _ _ _ h
theorem binF_ok (s : ByteArray) (a1 a2 b1 b2 : Int) : binOk s.data.toList (binF s a1 a2 b1 b2) := by
 rw [← toList_data]
 unfold binF
 cases e : value_Binary.f 9 s a1 a2 b1 b2 with
 | none => exact bin_no _ _ _
 | some r =>
  simp only [value_Binary.f] at e
  split at e
  ·exact j0_ok _ _ _ _ _ _ _ _ e
  ·exact j0_ok _ _ _ _ _ _ _ _ e
def rOk (r : Int × Int × Int) : Prop := r.2.2 = 0 ∨ (1 ≤ r.2.2 ∧ r.2.2 ≤ 3 ∧ r.1 = 0 ∧ r.2.1 = 0)
theorem kids_rOk (g : Int → Int × Int × Int) (hg : ∀ k, rOk (g k)) : ∀ (ks : List Int) (acc : List (Int × Int)), (kidsF g ks acc).2 = 0 ∨ (1 ≤ (kidsF g ks acc).2 ∧ (kidsF g ks acc).2 ≤ 3)
 | [], acc => .inl rfl
 | k :: ks, acc => by
  unfold kidsF
  split
  ·exact kids_rOk g hg ks _
  ·rcases hg k with h | h
   ·exact .inl h
   ·exact .inr ⟨h.1, h.2.1⟩
theorem op_rOk (ns : List S101) (ol : List Int) (nl : List NV) (L : List (List Int)) (i : Int) (vs : List (Int × Int)) : rOk (opF ns ol nl L i vs) := by
 unfold opF
 repeat' split
 all_goals first
  | exact .inl rfl
  | skip
 ·unfold rOk
  dsimp only
  rcases wrong_cases L (nameF nl (nmOf ns i)).1 (nameF nl (nmOf ns i)).2 (vs.getD 0 (0, 0)).1 (vs.getD 0 (0, 0)).2 with ⟨_, h⟩ | ⟨_, _, h⟩ | ⟨_, _, _, _, h⟩
  ·exact .inr ⟨by omega, by omega, by rw [getK, if_neg (by omega)], by rw [getN, if_neg (by omega)]⟩
  ·exact .inr ⟨by omega, by omega, by rw [getK, if_neg (by omega)], by rw [getN, if_neg (by omega)]⟩
  ·exact .inl h
 ·rename_i h
  rcases binF_ok _ _ _ _ _ h with h | h
  ·exact .inl h.1
  ·exact .inr ⟨by dsimp only; omega, by dsimp only; omega, h.2.1, h.2.2⟩
theorem eval_rOk (ns : List S101) (ol : List Int) (nl : List NV) (L : List (List Int)) : ∀ (f : Nat) (i : Int), rOk (evalF ns ol nl L f i)
 | 0, i => .inl rfl
 | f + 1, i => by
  unfold evalF
  split
  ·exact op_rOk ns ol nl L i _
  ·rename_i h
   rcases kids_rOk (evalF ns ol nl L f) (eval_rOk ns ol nl L f) (rd_T101 ns i).f4 [] with h' | h'
   ·exact absurd h' h
   ·exact .inr ⟨h'.1, h'.2, rfl, rfl⟩
theorem eval_kind (ns : List S101) (ol : List Int) (seeds : List Int) (a : Int × Int) (ha : a.1 = 3) (L : List (List Int)) (f : Nat) (q : Int) (hk1 : 20 ≤ kdOf ns q) (hk2 : kdOf ns q ≤ 27) (hx : exprF ns ol q ≠ 0)
  (h : (evalF ns ol (worthF ns ol q seeds a ns.length) L (f + 1) q).2.2 = 0) : (evalF ns ol (worthF ns ol q seeds a ns.length) L (f + 1) q).1 = exprF ns ol q := by
 obtain ⟨nl, hnl⟩ : ∃ nl, nl = worthF ns ol q seeds a ns.length := ⟨_, rfl⟩
 have hname : kindF ns ol q (nmOf ns q) ≠ 0 → (nameF nl (nmOf ns q)).1 = kindF ns ol q (nmOf ns q) := fun h => by rw [hnl]; exact worth_name ns ol q seeds a ha _ h
 rw [← hnl] at h ⊢
 unfold evalF at h ⊢
 split at h
 ·rename_i hz
  rw [if_pos hz]
  obtain ⟨vs, hvs⟩ : ∃ vs, vs = (kidsF (evalF ns ol nl L f) (rd_T101 ns q).f4 []).1 := ⟨_, rfl⟩
  rw [← hvs] at h ⊢
  have ht0 : nmOf ns q = (rd_T101 ns q).f3.data.toList := rfl
  unfold opF at h ⊢
  by_cases k20 : kdOf ns q = 20
  ·simp [exprF, k20]
  by_cases k21 : kdOf ns q = 21
  ·simp [exprF, k21]
  by_cases k22 : kdOf ns q = 22
  ·have e : exprF ns ol q = kindF ns ol q (nmOf ns q) := by simp [exprF, k22]
   rw [e] at hx ⊢
   simp only [k22]
   exact hname hx
  by_cases k23 : kdOf ns q = 23
  ·have e : exprF ns ol q = 1 := by simp [exprF, k23]
   rw [e]
   simp only [k23] at h ⊢
   have h' : wrongF L (nameF nl (nmOf ns q)).1 (nameF nl (nmOf ns q)).2 (vs.getD 0 (0, 0)).1 (vs.getD 0 (0, 0)).2 = 0 := h
   show getK L (nameF nl (nmOf ns q)).1 (nameF nl (nmOf ns q)).2 (vs.getD 0 (0, 0)).1 (vs.getD 0 (0, 0)).2 = 1
   rw [getK, if_pos h']
  by_cases k101 : kdOf ns q = 24
  ·simp [exprF, k101]
  by_cases k25 : kdOf ns q = 25
  ·simp [exprF, k25]
  by_cases k26 : kdOf ns q = 26
  ·have e : exprF ns ol q = if arithB (nmOf ns q) = true then 1 else 2 := by simp [exprF, k26]
   rw [if_neg k20, if_neg k21, if_neg k22, if_neg k23, if_neg k101, if_neg k25, if_pos k26]
   split
   ·rename_i hb
    rw [e, ht0]
    exact unF_ok _ _ _ hb
   ·rfl
  ·have k27 : kdOf ns q = 27 := by omega
   have e : exprF ns ol q = if arithB (nmOf ns q) = true then 1 else 2 := by simp [exprF, k27]
   rw [if_neg k20, if_neg k21, if_neg k22, if_neg k23, if_neg k101, if_neg k25, if_neg k26] at h ⊢
   split
   ·rename_i hb
    rw [if_pos hb] at h
    rw [e, ht0]
    rcases binF_ok _ _ _ _ _ hb with h' | h'
    ·exact h'.2
    ·exact absurd (h'.1.symm.trans h) (by decide)
   ·rfl
 ·rename_i hz
  exact absurd h hz
theorem expr_kinds (ns : List S101) (ol : List Int) (q : Int) (h : exprF ns ol q ≠ 0) : 20 ≤ kdOf ns q ∧ kdOf ns q ≤ 27 := by
 unfold exprF at h
 by_cases c : 20 ≤ kdOf ns q ∧ kdOf ns q ≤ 27
 ·exact c
 ·rw [if_neg (by omega), if_neg (by omega), if_neg (by omega), if_neg (by omega), if_neg (by omega)] at h
  exact absurd rfl h
attribute [local go_sem] max2_int min2_int max_two min_two max_three min_three max_four min_four
def runnellaw9_num.f (a0 : Int) : Option (Int × Int) := some (1, a0)
set_option maxHeartbeats 8000000 in
set_option maxRecDepth 100000 in
theorem runnellaw9_num.calls (a0 : Int) (r1 : Int) (r2 : Int) (w : World) (h : runnellaw9_num.f a0 = some (r1, r2)) :
  Calls Try.prog 16 #[.int .i64 a0] w fun e w' => e = .returned (.agg #[.int .i64 r1, .int .i64 r2]) ∧ Below w.heap.size w w' := by
 have hu23 := Try.underlying23
 have HB := Aside0.mk (Below.refl w.heap.size w)
 have H : (some (1, a0)) = some (r1, r2) := h
 clear h
 simp only [Option.some.injEq, Prod.mk.injEq] at H
 obtain ⟨rfl, rfl⟩ := H
 go_enter Try.func16, Try.ntmps16
 go_wp2_with (first | ((with_reducible refine gate_dst (N := 2) rfl ?_); refine box_event ?hg (N := 2) ?hd (cs := #[.int .i64 0, .int .i64 0]) (t := 23) ?hr ?_; (case hd => rfl); (case hg => rfl); (case hr => first | (go_simp; done) | (go_simp; rfl)); intro gb151 hg w2 hbox hb; have n0_ := Aside0.mk (below_step (by repeat (first | (with_reducible first | exact HB.out | apply below_alloc | apply pw_below_drewN | apply below_drew1) | exact HB.out)) hb); have n1_ := Aside0.mk (hbox); have n2_ := Aside0.mk ((by rw [hg]; exact (below_size (by repeat (first | (with_reducible first | exact HB.out | apply below_alloc | apply pw_below_drewN | apply below_drew1) | exact HB.out))) : w.heap.size ≤ gb151)); have n3_ := Aside0.mk ((by rw [hg]; exact (below_size (by repeat (first | (with_reducible first | exact HB.out | apply below_alloc | apply pw_below_drewN | apply below_drew1) | exact HB.out))) : w.heap.size ≤ gb151)); clear HB; have HB := n0_; have BK151 := n1_; have GW151 := n2_; have GE151 := n3_; clear n0_ n1_ n2_ n3_; clear hb hbox hg; have hcz3_0 : w2.cell? ⟨gb151, 0, none⟩ = some (.int .i64 0) := (blk_cell BK151.out 0).trans rfl; have hcz3_1 : w2.cell? ⟨gb151, 1, none⟩ = some (.int .i64 0) := (blk_cell BK151.out 1).trans rfl; have hfz3_0 := blk_frozen BK151.out 0; have hfz3_1 := blk_frozen BK151.out 1))
 refine bodyPost_ret (results_cell_row rfl _ _ gb151 23 #[.int .i64 1, .int .i64 a0] (0, 0) _ rfl (by (with_reducible repeat (first | refine blk_drewN ?_ _ | refine blk_drew ?_ | refine blk_alloc ?_ _)); refine blk_put (cs := #[.int .i64 1, .int .i64 0]) ?_ 1 _ rfl; (with_reducible repeat (first | refine blk_drewN ?_ _ | refine blk_drew ?_ | refine blk_alloc ?_ _)); refine blk_put (cs := #[.int .i64 0, .int .i64 0]) ?_ 0 _ rfl; (with_reducible repeat (first | refine blk_drewN ?_ _ | refine blk_drew ?_ | refine blk_alloc ?_ _)); exact BK151.out) Try.underlying23 rfl (by kernel_rfl)) rfl ?_
 exact ⟨by first | rfl | (simp [errW_none, errW_some] <;> rfl) | (simp [*, errW_none, errW_some] <;> rfl), by repeat (first | (with_reducible first | exact HB.out | apply below_alloc | apply pw_below_drewN | apply below_drew1 | refine below_set ?_ GE151.out) | exact HB.out)⟩
end Go.Proofs.Ytkhlfdcjgooogaa.P
