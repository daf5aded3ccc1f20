import Derived.Test.YtkhlfdcjgooogaaTyP
import Derived.Test.YtkhlfdcjgooogaaPf71
set_option linter.unusedVariables false
set_option linter.unusedSimpArgs false
namespace Go.Proofs.Ytkhlfdcjgooogaa.P
open Go.RowKit Go.Proofs.YtkhlfdcjgooogaaW.PrintWords Go.Proofs.YtkhlfdcjgooogaaW.PrintLast Go.Proofs.YtkhlfdcjgooogaaW.PrintMore
theorem learn_made (w : World) (c1 c2 : Array Value) (t1 t2 : TypeId) : (((((w.alloc (.cells c1 t1)).alloc (.map #[] 0)).alloc (.map #[] 0)).alloc (.map #[] 0)).alloc (.cells c2 t2)).heap[w.heap.size]? = some (.cells c1 t1 (0, 0)) ∧
  SMap (((((w.alloc (.cells c1 t1)).alloc (.map #[] 0)).alloc (.map #[] 0)).alloc (.map #[] 0)).alloc (.cells c2 t2)) (w.heap.size + 1) 0 (fun _ => none) ∧
  SMap (((((w.alloc (.cells c1 t1)).alloc (.map #[] 0)).alloc (.map #[] 0)).alloc (.map #[] 0)).alloc (.cells c2 t2)) (w.heap.size + 1 + 1) 0 (fun _ => none) ∧
  LMap (((((w.alloc (.cells c1 t1)).alloc (.map #[] 0)).alloc (.map #[] 0)).alloc (.map #[] 0)).alloc (.cells c2 t2)) (w.heap.size + 1 + 1 + 1) 0 (fun _ => none) ∧
  (((((w.alloc (.cells c1 t1)).alloc (.map #[] 0)).alloc (.map #[] 0)).alloc (.map #[] 0)).alloc (.cells c2 t2)).heap[w.heap.size + 1 + 1 + 1 + 1]? = some (.cells c2 t2 (0, 0)) ∧
  Below w.heap.size w (((((w.alloc (.cells c1 t1)).alloc (.map #[] 0)).alloc (.map #[] 0)).alloc (.map #[] 0)).alloc (.cells c2 t2)) ∧
  (((((w.alloc (.cells c1 t1)).alloc (.map #[] 0)).alloc (.map #[] 0)).alloc (.map #[] 0)).alloc (.cells c2 t2)).heap.size = w.heap.size + 1 + 1 + 1 + 1 + 1 := by
 have e1 : (w.alloc (.cells c1 t1)).heap.size = w.heap.size + 1 := by simp
 have e2 : ((w.alloc (.cells c1 t1)).alloc (.map #[] 0)).heap.size = w.heap.size + 1 + 1 := by simp
 have e3 : (((w.alloc (.cells c1 t1)).alloc (.map #[] 0)).alloc (.map #[] 0)).heap.size = w.heap.size + 1 + 1 + 1 := by simp
 have e4 : ((((w.alloc (.cells c1 t1)).alloc (.map #[] 0)).alloc (.map #[] 0)).alloc (.map #[] 0)).heap.size = w.heap.size + 1 + 1 + 1 + 1 := by simp
 refine ⟨blk_alloc (blk_alloc (blk_alloc (blk_alloc (blk_new w _) _) _) _) _, ?_, ?_, ?_, ?_, below_alloc (below_alloc (below_alloc (below_alloc (below_alloc (Below.refl _ _) _) _) _) _) _, by simp⟩
 ·rw [← e1]
  exact (((SMap.made (w.alloc (.cells c1 t1))).kept (World.grownBy_alloc _ _ none) (by simp)).kept (World.grownBy_alloc _ _ none) (by simp)).kept (World.grownBy_alloc _ _ none) (by simp)
 ·rw [← e2]
  exact ((SMap.made ((w.alloc (.cells c1 t1)).alloc (.map #[] 0))).kept (World.grownBy_alloc _ _ none) (by simp)).kept (World.grownBy_alloc _ _ none) (by simp)
 ·rw [← e3]
  exact (LMap.made (((w.alloc (.cells c1 t1)).alloc (.map #[] 0)).alloc (.map #[] 0))).kept (World.grownBy_alloc _ _ none) (by simp)
 ·rw [← e4]
  exact blk_new _ _
theorem made_ints (m : Nat) : madeCells (Value.int .i64 0).cells (m * 1) = intCells (List.replicate m 0) := by
 apply Array.ext
 ·simp [madeCells, intCells]
 ·intro i h1 h2
  simp [madeCells, intCells, Value.cells, Nat.mod_one]
theorem run_makeInts (n : Nat) (hn : n ≤ 4000) (W : World) : (Instr.makeSlice 70 (.int .i64 n) (.int .i64 n)).run Try.prog W = .ok (.slice (some ⟨W.heap.size, 0, none⟩) n n) (W.alloc (.cells (intCells (List.replicate n 0)) 3)) := by
 obtain ⟨i3, hi3, hz3⟩ := Option.map_eq_some_iff.1 info3
 simp only [Prod.mk.injEq] at hz3
 have := run_make (P := Try.prog) W 70 3 i3 (.int .i64 0) Try.underlying70 hi3 hz3.1 .i64 .i64 (n : Int) (n : Int) (by omega) (Int.le_refl _) (by rw [hz3.2.2]; omega) (by omega)
 simp only [Int.toNat_natCast] at this
 rw [this, hz3.2.1, made_ints]
set_option maxRecDepth 100000 in
set_option maxHeartbeats 16000000 in
theorem learn_is (At : Option Addr) (ct : Nat) (ns : List S101) (root : Int) (w : World) (hC : Kd.C k101 w At ns.length ns) (hct : ns.length ≤ ct) (hn0 : 0 < ns.length) (hn : ns.length ≤ 4000) (hs : ∀ x ∈ ns, x.f3.size ≤ 140737488351232) (hroot : root = (ns.length : Int) - 1)
  (kf : Nat) (ps : List Int) (hpar : tree_Parents.f kf ns root = some ps) (hpl : ps.length = ns.length) (hpr : ∀ i : Int, 0 ≤ i → i < root → i < rd ps i ∧ rd ps i < ns.length)
  (ol : List Int) (hol : OwnEq ns ps root ol) (hown : OwnOk ns ol) (hpre : ∀ i : Int, 0 ≤ i → i < ns.length → kdOf ns i = 4 ∨ kdOf ns i = 5 → rd ol i ≠ -1) :
  Calls Try.prog 51 #[.agg #[.slice At ns.length ct, .int .i64 root]] w fun e w' => ∃ p, e = .returned (.pointer (some ⟨p, 0, none⟩)) ∧ Sc p At ct ns root ol w' ∧ Below w.heap.size w w' := by
 have hmm := @run_makeMap Try.prog
 have HC := Lib.hid hC
 have HPAR := Lib.hid hpar
 have HPR := Lib.hid hpr
 have HOL := Lib.hid hol
 have HOWN := Lib.hid hown
 have HPRE := Lib.hid hpre
 have HSZ := Lib.hid hs
 clear hC hpar hpr hol hown hpre hs
 obtain ⟨b1, b2, b3, b4, b5, b6, b7⟩ := learn_made w #[.slice At ns.length ct, .int .i64 root] #[.slice At ns.length ct, .int .i64 root, .slice none 0 0, .map (some (w.heap.size + 1)), .map (some (w.heap.size + 1 + 1)), .map (some (w.heap.size + 1 + 1 + 1))] 69 129
 obtain ⟨W1, hW1⟩ : ∃ W1, W1 = ((((w.alloc (.cells #[.slice At ns.length ct, .int .i64 root] 69)).alloc (.map #[] 0)).alloc (.map #[] 0)).alloc (.map #[] 0)).alloc (.cells #[.slice At ns.length ct, .int .i64 root, .slice none 0 0, .map (some (w.heap.size + 1)), .map (some (w.heap.size + 1 + 1)), .map (some (w.heap.size + 1 + 1 + 1))] 129) := ⟨_, rfl⟩
 rw [← hW1] at b1 b2 b3 b4 b5 b6 b7
 have B1 := Lib.hid b1
 have B2 := Lib.hid b2
 have B3 := Lib.hid b3
 have B4 := Lib.hid b4
 have B5 := Lib.hid b5
 have B6 := Lib.hid b6
 have B7 := Lib.hid b7
 have HW1 := Lib.hid hW1
 clear b1 b2 b3 b4 b5 b6 b7 hW1
 have HRT := Lib.hid hroot
 clear hroot
 go_enter Try.func51, Try.ntmps51
 go_wp2_with fail
 rw [← HW1.out]
 refine (tree_Parents.calls kf At ct ns root ps W1 (Kd.C_below HC.out B6.out) hct HPAR.out).mono ?_
 rintro e_ W2 ⟨v, rfl, hr_, hb_⟩
 have howr := Kd.own_of_R hr_
 rw [hpl] at howr
 obtain ⟨gp, cp, curp, rfl, hgp, hcurp, hncp, htake⟩ : ∃ gp cp curp, v = .slice (some ⟨gp, 0, none⟩) ns.length cp ∧ W1.heap.size ≤ gp ∧ W2.heap[gp]? = some (.cells curp 3 (0, 0)) ∧ ns.length ≤ cp ∧ ∀ i : Int, 0 ≤ i → i < ns.length → curp[i.toNat]? = some (.int .i64 (rd ps i)) := by
  obtain ⟨h1, h2⟩ := howr
  rcases h2 with ⟨_, h0⟩ | ⟨g, cap, cur, hv, hb, hh, hnc, hcm, hcs, ht⟩
  ·omega
  ·refine ⟨g, cap, cur, hv, hb, hh, hnc, fun i h0 h1 => ?_⟩
   have hi : i.toNat < ps.length := by omega
   have h3 : (cur.toList.take (ns.length * 1))[i.toNat]? = some (.int .i64 (rd ps i)) := by
    rw [ht]
    simp [encs, rd, hi]
   rw [List.getElem?_take] at h3
   split at h3
   ·simpa using h3
   ·cases h3
 have HGP := Lib.hid hgp
 have X2 := Lib.hid hcurp
 have HTK := Lib.hid htake
 have B12 : Hid (W2.heap[w.heap.size]? = _) := Lib.hid (blk_below B1.out hb_)
 have B52 : Hid (W2.heap[w.heap.size + 1 + 1 + 1 + 1]? = _) := Lib.hid (blk_below B5.out hb_)
 have B22 := Lib.hid (B2.out.of_heap (hb_.block _ B2.out.lt))
 have B32 := Lib.hid (B3.out.of_heap (hb_.block _ B3.out.lt))
 have B42 := Lib.hid (B4.out.of_heap (hb_.block _ B4.out.lt))
 have HB2 := Lib.hid (below_step B6.out hb_)
 clear howr hr_ hgp hcurp htake hb_
 have hmk := run_makeInts ns.length hn
 have d0 : W2.cell? ⟨w.heap.size, 0, none⟩ = some (.slice At ns.length ct) := (blk_cell B12.out 0).trans rfl
 have a2 := blk_alloc B52.out (.cells (intCells (List.replicate ns.length 0)) 3)
 have d2 : (W2.alloc (.cells (intCells (List.replicate ns.length 0)) 3)).cell? ⟨w.heap.size + 1 + 1 + 1 + 1, 1 + 1, none⟩ = some (.slice none 0 0) := (blk_cell a2 2).trans rfl
 have f2 := blk_frozen a2 (1 + 1)
 have a3 : (W2.alloc (.cells (intCells (List.replicate ns.length 0)) 3)).heap[W2.heap.size]? = some (.cells (intCells (List.replicate ns.length 0)) 3 (0, 0)) := blk_new W2 _
 have b7 : W2.heap.size ≥ gp + 1 := blk_lt X2.out
 have b8 := B7.out
 have b9 := HGP.out
 have fx : Fx w.heap.size w.heap.size (w.heap.size + 1) (w.heap.size + 1 + 1) (w.heap.size + 1 + 1 + 1) (w.heap.size + 1 + 1 + 1 + 1) gp W2.heap.size := ⟨by omega⟩
 obtain ⟨W3, hW3⟩ : ∃ W3, W3 = (W2.alloc (.cells (intCells (List.replicate ns.length 0)) 3)).setCell ⟨w.heap.size + 1 + 1 + 1 + 1, 2, none⟩ (.slice (some ⟨W2.heap.size, 0, none⟩) ns.length ns.length) := ⟨_, rfl⟩
 have far3 : ∀ b, b ≠ w.heap.size + 1 + 1 + 1 + 1 → W3.heap[b]? = (W2.alloc (.cells (intCells (List.replicate ns.length 0)) 3)).heap[b]? := fun b hb => by rw [hW3]; exact Below.heap_setCell _ ⟨w.heap.size + 1 + 1 + 1 + 1, 2, none⟩ _ b hb
 have old3 : ∀ b o, W2.heap[b]? = some o → b ≠ w.heap.size + 1 + 1 + 1 + 1 → W3.heap[b]? = some o := fun b o h hb => (far3 b hb).trans (blk_alloc h _)
 have same3 : ∀ b, b < W2.heap.size → b ≠ w.heap.size + 1 + 1 + 1 + 1 → W3.heap[b]? = W2.heap[b]? := fun b h hb => (far3 b hb).trans (Below.heap_alloc W2 _ b h)
 have L0 : Hid (L1 w w.heap.size (w.heap.size + 1) (w.heap.size + 1 + 1) (w.heap.size + 1 + 1 + 1) (w.heap.size + 1 + 1 + 1 + 1) gp W2.heap.size curp At ct ns root ol W3 ns.length ns.length (List.replicate ns.length 0) (fun _ => none) 0) := Lib.hid {
  hp := by rw [hW3]; exact blk_put a2 2 _ rfl
  hO := (far3 _ (by omega)).trans a3
  hT := old3 _ _ B12.out (by omega)
  hP := old3 _ _ X2.out (by omega)
  hG := B22.out.of_heap (same3 _ (by omega) (by omega))
  hR := B32.out.of_heap (same3 _ (by omega) (by omega))
  hL := B42.out.of_heap (same3 _ (by omega) (by omega))
  hm := by omega
  hLs := fun o b e => by cases e
  hLi := fun o o' b e => by cases e
  hLd := fun o h1 h2 => by omega
  hlen := by simp
  hcl := fun x h1 h2 => by omega
  hB := by rw [hW3]; exact Below.setCell (below_alloc HB2.out _) (p := ⟨w.heap.size + 1 + 1 + 1 + 1, 2, none⟩) (by show w.heap.size ≤ w.heap.size + 1 + 1 + 1 + 1; omega) _ }
 have d1 : W3.cell? ⟨w.heap.size, 1, none⟩ = some (.int .i64 root) := (blk_cell L0.out.hT 1).trans rfl
 have FX := Lib.hid fx
 have HW3 := Lib.hid hW3
 rw [hW3] at d1
 clear a2 a3 b7 b8 b9 fx far3 old3 same3 hW3
 go_wp2_with fail
 rw [← HW3.out]
 clear d0 d1 d2 f2 hmk B1 B2 B3 B4 B5 B6 B7 B12 B52 B22 B32 B42 HGP X2 HW1
 obtain ⟨bo, hbo⟩ : ∃ bo, bo = W2.heap.size := ⟨_, rfl⟩
 rw [← hbo] at FX L0 ⊢
 obtain ⟨N, hN⟩ : ∃ N, N = w.heap.size := ⟨_, rfl⟩
 clear hbo HW3
 go_loopg [5] (ns.length + 1) (fun kq v5 W => ∃ (j : Nat) (x : Int) (cl : List Int) (Lb : Int → Option Nat) (m : Nat), v5 = .int .i64 x ∧ Hid (x = (j : Int) - 1) ∧ j ≤ ns.length ∧ Hid (kq = j + 1) ∧ Hid (L1 w w.heap.size (w.heap.size + 1) (w.heap.size + 1 + 1) (w.heap.size + 1 + 1 + 1) (w.heap.size + 1 + 1 + 1 + 1) gp bo curp At ct ns root ol W j j cl Lb m))
 case atStart => exact ⟨ns.length, root, _, _, 0, rfl, HRT, Nat.le_refl _, Lib.hid rfl, L0⟩
 case round =>
  obtain ⟨j, x, cl, Lb, m, rfl, HX, hj, HN, HL⟩ := hrel
  clear L0
  by_cases hj0 : 0 < j
  ·obtain ⟨i, rfl⟩ : ∃ i, j = i + 1 := ⟨j - 1, by omega⟩
   obtain rfl : x = (i : Int) := by have := HX.out; omega
   have hin : (i : Int) < ns.length := by omega
   have h0i : (0 : Int) ≤ i := by omega
   obtain ⟨ad, A4, c4, eA, z0, z1, z2, z3, z4, l4, g4⟩ := at_T101 (Kd.C_below HC.out HL.out.hB) (i : Int) h0i hin
   have d0 : wr.cell? ⟨w.heap.size, 0, none⟩ = some (.slice At ns.length ct) := (blk_cell HL.out.hT 0).trans rfl
   have hk0 : kdOf ns i = (rd_T101 ns i).f0 := rfl
   obtain ⟨k, hk⟩ : ∃ k, k = kdOf ns i := ⟨_, rfl⟩
   have HK := Lib.hid hk
   rw [← hk0, ← hk] at z0
   clear hk0
   obtain ⟨y, hy⟩ : ∃ y, y = rd_T101 ns (i : Int) := ⟨_, rfl⟩
   rw [← hy] at z1 z2 z3 z4
   obtain ⟨k_, n, at_, tx, kl⟩ := y
   dsimp only at z1 z2 z3 z4
   rw [Int.toNat_natCast] at z0 z1 z2 z3 z4
   have hba : Below wr.heap.size wr (wr.alloc (.cells #[.int .i64 k, .int .i64 n, .int .i64 at_, .string tx, .slice A4 kl.length c4] 101)) := below_alloc (Below.refl _ _) _
   obtain ⟨Wa, hWa⟩ : ∃ Wa, Wa = wr.alloc (.cells #[.int .i64 k, .int .i64 n, .int .i64 at_, .string tx, .slice A4 kl.length c4] 101) := ⟨_, rfl⟩
   rw [← hWa] at hba
   have HA := Lib.hid (HL.out.below hba)
   have q0 : Wa.cell? ⟨w.heap.size, 1, none⟩ = some (.int .i64 root) := (blk_cell HA.out.hT 1).trans rfl
   have q2 : Wa.cell? ⟨w.heap.size + 1 + 1 + 1 + 1, 1 + 1, none⟩ = some (.slice (some ⟨bo, 0, none⟩) ns.length ns.length) := (blk_cell HA.out.hp 2).trans rfl
   have q3 : Wa.cell? ⟨bo, i, none⟩ = some (.int .i64 (rd cl (i : Int))) := by
    have := (blk_cell HA.out.hO ((i : Int).toNat)).trans (intCells_get cl (i : Int) h0i (by rw [HL.out.hlen]; exact hin))
    simpa using this
   have f3 := blk_frozen HA.out.hO i
   have HWA := Lib.hid hWa
   have HOI := Lib.hid (HOL.out.2 (i : Int) h0i hin)
   cases eA
   clear hk hy l4 g4 hba
   by_cases k3 : k = 3
   ·subst k3
    have hoi : rd ol (i : Int) = i := by rw [HOI.out, if_pos HK.out.symm]
    have hb := HA.out.own FX.out (show i < ns.length by omega)
    rw [hoi] at hb
    obtain ⟨Wb, hWb⟩ : ∃ Wb, Wb = Wa.setCell ⟨bo, i, none⟩ (.int .i64 (i : Int)) := ⟨_, rfl⟩
    rw [← hWb] at hb
    have HBo := Lib.hid hb
    have q5 : Wb.cell? ⟨w.heap.size + 1 + 1 + 1 + 1, 5, none⟩ = some (.map (some (w.heap.size + 1 + 1 + 1))) := (blk_cell HBo.out.hp 5).trans rfl
    have HWB := Lib.hid hWb
    rw [hWb] at q5
    rw [hWa] at q0 q2 q3 f3 q5
    clear hb hWa hWb
    go_wp2_with ((at_mapUpdate; refine Stq.out ?_))
    unfold Stq
    rw [← HWA.out, ← HWB.out]
    clear q0 q2 q3 f3 q5 d0 z0 z1 z2 z3 z4
    have hsz : Wb.heap.size = wr.heap.size + 1 := by rw [HWB.out, HWA.out]; simp
    refine wp_putL rfl _ _ _ rfl (b := w.heap.size + 1 + 1 + 1) (f := Lb) rfl (HBo.out.hL.kept (World.grownBy_alloc Wb (.map #[] 0) none) (by simp)) (by have := HBo.out.hm; omega) (i : Int) rfl (wf64 (by omega) (by omega)) Wb.heap.size (by rw [hsz]; rfl) ?_
    intro W4 hL4 hg4
    have HL4 := Lib.hid ((HBo.out.below (below_alloc (Below.refl Wb.heap.size Wb) (.map #[] 0))).put FX.out Wb.heap.size (SMap.made Wb) (blk_lt HBo.out.hO) (fun o e => by have := (HBo.out.hLs o _ e).1.lt; omega) hL4 hg4)
    clear hL4 hg4
    go_wp2_with fail
    go_roundg (gk - 1)
    case measure => have := HN.out; omega
    case rel => exact ⟨i, (i : Int) - 1, _, _, _, by first | rfl | norm_cast, Lib.hid rfl, by omega, Lib.hid (by have := HN.out; omega), HL4⟩
   ·by_cases hir : (i : Int) = root
    ·have hoi : rd ol (i : Int) = -1 := by rw [HOI.out, if_neg (by rw [← HK.out]; exact k3), if_pos hir]
     have hb := HA.out.own FX.out (show i < ns.length by omega)
     rw [hoi] at hb
     have HBo := Lib.hid (hb.skip (by rw [← HK.out]; exact k3))
     have hib : ((i : Int) == root) = true := by simpa using hir
     rw [hWa] at q0 q2 q3 f3
     clear hb hWa hir hoi HOI
     go_wp2_with fail
     rw [← HWA.out]
     go_roundg (gk - 1)
     case measure => have := HN.out; omega
     case rel => exact ⟨i, (i : Int) - 1, _, _, _, by first | rfl | norm_cast, Lib.hid rfl, by omega, Lib.hid (by have := HN.out; omega), HBo⟩
    ·have hpi := HPR.out (i : Int) h0i (by have := HRT.out; omega)
     obtain ⟨pi, hpi0⟩ : ∃ pi, pi = rd ps (i : Int) := ⟨_, rfl⟩
     rw [← hpi0] at hpi
     have hvp := HL.out.hcl pi (by omega) hpi.2
     have hoi : rd ol (i : Int) = rd cl pi := by rw [HOI.out, if_neg (by rw [← HK.out]; exact k3), if_neg hir, ← hpi0, hvp]
     have hb := (HA.out.below (below_drew (Below.refl _ _))).own FX.out (show i < ns.length by omega)
     rw [hoi] at hb
     have qg : Wa.cell? ⟨gp, i, none⟩ = some (.int .i64 pi) := by
      have := (blk_cell HA.out.hP ((i : Int).toNat)).trans (HTK.out (i : Int) h0i hin)
      rw [hpi0]
      simpa using this
     have qv : Wa.cell? ⟨bo, pi.toNat, none⟩ = some (.int .i64 (rd cl pi)) := (blk_cell HA.out.hO pi.toNat).trans (intCells_get cl pi (by omega) (by rw [HL.out.hlen]; exact hpi.2))
     obtain ⟨vp, hvp0⟩ : ∃ vp, vp = rd cl pi := ⟨_, rfl⟩
     rw [← hvp0] at qv hb
     have HBo := Lib.hid (hb.skip (by rw [← HK.out]; exact k3))
     have hib : ((i : Int) == root) = false := by simpa using hir
     have p0 : 0 ≤ pi := by omega
     have p1 : pi < (ns.length : Int) := hpi.2
     rw [hWa] at q0
     clear hb hir hoi HOI hvp hvp0 hpi0 hpi
     obtain ⟨cv, hcv⟩ : ∃ cv, cv = rd cl (i : Int) := ⟨_, rfl⟩
     rw [← hcv] at q3
     clear hcv hWa
     go_wp2_with fail
     rw [← HWA.out]
     refine start_ (n := 17) (S := fun w' => w'.cell? ⟨w.heap.size + 1 + 1 + 1 + 1, 2, none⟩ = some (.slice (some ⟨bo, 0, none⟩) ns.length ns.length) ∧ w'.cell? ⟨gp, i, none⟩ = some (.int .i64 pi) ∧ w'.cell? ⟨bo, pi.toNat, none⟩ = some (.int .i64 vp)) (ds := [16]) #[false, false, false, false, false, false, false, false, false, false, false, false, false, false, false, false, false] (by kernel_rfl) rfl rfl ⟨cel_drew q2, cel_drew qg, cel_drew qv⟩ (fun hHeld => ?_)
     refine pure_ (i := 0) (N := some 36) (v := ?_) (a' := ?_) #[true, false, false, false, false, false, false, false, false, false, false, false, false, false, false, false, false] rfl rfl (by kernel_rfl) (fun _ _ _ h => h) (Or.inl ⟨by rfl, ?_⟩) ?_ ?_
     rotate_left
     ·intro w'
      go_simp
      with_reducible rfl
     rotate_left
     ·simp only [Act.put, List.setIfInBounds_toArray, List.set_cons_zero, List.set_cons_succ, i64_w, i32_w]
      rfl
     refine pure_ (i := 1) (N := some 37) (v := ?_) (a' := ?_) #[true, true, false, false, false, false, false, false, false, false, false, false, false, false, false, false, false] rfl rfl (by kernel_rfl) (fun _ _ _ h => h) (Or.inl ⟨by rfl, ?_⟩) ?_ ?_
     rotate_left
     ·intro w'
      go_simp
      with_reducible rfl
     rotate_left
     ·simp only [Act.put, List.setIfInBounds_toArray, List.set_cons_zero, List.set_cons_succ, i64_w, i32_w]
      rfl
     refine pure_ (i := 2) (N := some 38) (v := ?_) (a' := ?_) #[true, true, true, false, false, false, false, false, false, false, false, false, false, false, false, false, false] rfl rfl (by kernel_rfl) (fun _ _ _ h => h) (Or.inl ⟨by rfl, ?_⟩) ?_ ?_
     rotate_left
     ·intro w'
      go_simp
      with_reducible rfl
     rotate_left
     ·simp only [Act.put, List.setIfInBounds_toArray, List.set_cons_zero, List.set_cons_succ, i64_w, i32_w]
      rfl
     refine pure_ (i := 4) (N := some 40) (v := ?_) (a' := ?_) #[true, true, true, false, true, false, false, false, false, false, false, false, false, false, false, false, false] rfl rfl (by kernel_rfl) (fun _ _ _ h => h) (Or.inl ⟨by rfl, ?_⟩) ?_ ?_
     rotate_left
     ·intro w'
      go_simp
      with_reducible rfl
     rotate_left
     ·simp only [Act.put, List.setIfInBounds_toArray, List.set_cons_zero, List.set_cons_succ, i64_w, i32_w]
      rfl
     refine pure_ (i := 5) (N := some 41) (v := ?_) (a' := ?_) #[true, true, true, false, true, true, false, false, false, false, false, false, false, false, false, false, false] rfl rfl (by kernel_rfl) (fun _ _ _ h => h) (Or.inl ⟨by rfl, ?_⟩) ?_ ?_
     rotate_left
     ·intro w'
      go_simp
      with_reducible rfl
     rotate_left
     ·simp only [Act.put, List.setIfInBounds_toArray, List.set_cons_zero, List.set_cons_succ, i64_w, i32_w]
      rfl
     refine pure_ (i := 6) (N := some 42) (v := ?_) (a' := ?_) #[true, true, true, false, true, true, true, false, false, false, false, false, false, false, false, false, false] rfl rfl (by kernel_rfl) (fun _ _ _ h => h) (Or.inl ⟨by rfl, ?_⟩) ?_ ?_
     rotate_left
     ·intro w'
      go_simp
      with_reducible rfl
     rotate_left
     ·simp only [Act.put, List.setIfInBounds_toArray, List.set_cons_zero, List.set_cons_succ, i64_w, i32_w]
      rfl
     refine pure_ (i := 7) (N := some 43) (v := ?_) (a' := ?_) #[true, true, true, false, true, true, true, true, false, false, false, false, false, false, false, false, false] rfl rfl (by kernel_rfl) (fun _ _ _ h => h) (Or.inl ⟨by rfl, ?_⟩) ?_ ?_
     rotate_left
     ·intro w'
      go_simp
      with_reducible rfl
     rotate_left
     ·simp only [Act.put, List.setIfInBounds_toArray, List.set_cons_zero, List.set_cons_succ, i64_w, i32_w]
      rfl
     refine pure_ (i := 9) (N := some 45) (v := ?_) (a' := ?_) #[true, true, true, false, true, true, true, true, false, true, false, false, false, false, false, false, false] rfl rfl (by kernel_rfl) (fun _ _ _ h => h) (Or.inl ⟨by rfl, ?_⟩) ?_ ?_
     rotate_left
     ·intro w'
      go_simp
      with_reducible rfl
     rotate_left
     ·simp only [Act.put, List.setIfInBounds_toArray, List.set_cons_zero, List.set_cons_succ, i64_w, i32_w]
      rfl
     refine pure_ (i := 10) (N := some 46) (v := ?_) (a' := ?_) #[true, true, true, false, true, true, true, true, false, true, true, false, false, false, false, false, false] rfl rfl (by kernel_rfl) (fun _ _ _ h => h) (Or.inl ⟨by rfl, ?_⟩) ?_ ?_
     rotate_left
     ·intro w'
      go_simp
      with_reducible rfl
     rotate_left
     ·simp only [Act.put, List.setIfInBounds_toArray, List.set_cons_zero, List.set_cons_succ, i64_w, i32_w]
      rfl
     refine pure_ (i := 11) (N := some 47) (v := ?_) (a' := ?_) #[true, true, true, false, true, true, true, true, false, true, true, true, false, false, false, false, false] rfl rfl (by kernel_rfl) (fun _ _ _ h => h) (Or.inl ⟨by rfl, ?_⟩) ?_ ?_
     rotate_left
     ·intro w'
      go_simp
      with_reducible rfl
     rotate_left
     ·simp only [Act.put, List.setIfInBounds_toArray, List.set_cons_zero, List.set_cons_succ, i64_w, i32_w]
      rfl
     refine take_ (i := 3) (N := some 39) (v := ?_) (a' := ?_) #[true, true, true, true, true, true, true, true, false, true, true, true, false, false, false, false, false] rfl rfl (by kernel_rfl) (fun _ _ _ h => h) (Or.inl ⟨by rfl, ?_⟩) hHeld ?_ ?_
     rotate_left
     ·rintro w' ⟨s0, s1, s2⟩
      go_simp
      with_reducible rfl
     rotate_left
     ·simp only [Act.put, List.setIfInBounds_toArray, List.set_cons_zero, List.set_cons_succ, i64_w, i32_w]
      rfl
     refine take_ (i := 8) (N := some 44) (v := ?_) (a' := ?_) #[true, true, true, true, true, true, true, true, true, true, true, true, false, false, false, false, false] rfl rfl (by kernel_rfl) (fun _ _ _ h => h) (Or.inl ⟨by rfl, ?_⟩) hHeld ?_ ?_
     rotate_left
     ·rintro w' ⟨s0, s1, s2⟩
      go_simp
      with_reducible rfl
     rotate_left
     ·simp only [Act.put, List.setIfInBounds_toArray, List.set_cons_zero, List.set_cons_succ, i64_w, i32_w]
      rfl
     refine take_ (i := 12) (N := some 48) (v := ?_) (a' := ?_) #[true, true, true, true, true, true, true, true, true, true, true, true, true, false, false, false, false] rfl rfl (by kernel_rfl) (fun _ _ _ h => h) (Or.inl ⟨by rfl, ?_⟩) hHeld ?_ ?_
     rotate_left
     ·rintro w' ⟨s0, s1, s2⟩
      go_simp
      with_reducible rfl
     rotate_left
     ·simp only [Act.put, List.setIfInBounds_toArray, List.set_cons_zero, List.set_cons_succ, i64_w, i32_w]
      rfl
     refine pure_ (i := 13) (N := some 49) (v := ?_) (a' := ?_) #[true, true, true, true, true, true, true, true, true, true, true, true, true, true, false, false, false] rfl rfl (by kernel_rfl) (fun _ _ _ h => h) (Or.inl ⟨by rfl, ?_⟩) ?_ ?_
     rotate_left
     ·intro w'
      go_simp
      with_reducible rfl
     rotate_left
     ·simp only [Act.put, List.setIfInBounds_toArray, List.set_cons_zero, List.set_cons_succ, i64_w, i32_w]
      rfl
     refine take_ (i := 14) (N := some 50) (v := ?_) (a' := ?_) #[true, true, true, true, true, true, true, true, true, true, true, true, true, true, true, false, false] rfl rfl (by kernel_rfl) (fun _ _ _ h => h) (Or.inl ⟨by rfl, ?_⟩) hHeld ?_ ?_
     rotate_left
     ·rintro w' ⟨s0, s1, s2⟩
      go_simp
      with_reducible rfl
     rotate_left
     ·simp only [Act.put, List.setIfInBounds_toArray, List.set_cons_zero, List.set_cons_succ, i64_w, i32_w]
      rfl
     refine pure_ (i := 15) (N := some 51) (v := ?_) (a' := ?_) #[true, true, true, true, true, true, true, true, true, true, true, true, true, true, true, true, false] rfl rfl (by kernel_rfl) (fun _ _ _ h => h) (Or.inl ⟨by rfl, ?_⟩) ?_ ?_
     rotate_left
     ·intro w'
      go_simp
      with_reducible rfl
     rotate_left
     ·simp only [Act.put, List.setIfInBounds_toArray, List.set_cons_zero, List.set_cons_succ, i64_w, i32_w]
      rfl
     refine last_ (i := 16) (N := none) #[true, true, true, true, true, true, true, true, true, true, true, true, true, true, true, true, true] rfl rfl (by kernel_rfl) (by decide) (fun K hK => ?_)
     refine skip_ (w1 := ?_) (by rfl) rfl ?_ ?_
     rotate_left
     ·go_simp
      rfl
     refine hK.out _ _ ?_
     clear hK K
     refine done_ (by kernel_rfl) ?_
     go_wp2_with fail
     go_roundg (gk - 1)
     case measure => have := HN.out; omega
     case rel => exact ⟨i, (i : Int) - 1, _, _, _, by first | rfl | norm_cast, Lib.hid rfl, by omega, Lib.hid (by have := HN.out; omega), HBo⟩
  ·obtain rfl : j = 0 := by omega
   obtain rfl : x = -1 := by have := HX.out; omega
   have L0 := Lib.hid (L2.start HL.out HOL.out.1)
   have d0 : wr.cell? ⟨w.heap.size, 0, none⟩ = some (.slice At ns.length ct) := (blk_cell HL.out.hT 0).trans rfl
   clear HL HX HN
   go_wp2_with fail
   clear d0
   go_loopg [83] (ns.length + 1) (fun kq v83 W => ∃ i : Nat, v83 = .int .i64 i ∧ i ≤ ns.length ∧ Hid (i + kq = ns.length + 1) ∧ Hid (L2 w w.heap.size (w.heap.size + 1) (w.heap.size + 1 + 1) (w.heap.size + 1 + 1 + 1) (w.heap.size + 1 + 1 + 1 + 1) gp bo At ct ns root ol Lb W i))
   case atStart => exact ⟨0, rfl, Nat.zero_le _, Lib.hid (by omega), L0⟩
   case round =>
    obtain ⟨i, rfl, hi, HN, HL⟩ := hrel
    clear L0
    by_cases hlt : i < ns.length
    ·have hin : (i : Int) < ns.length := by omega
     have h0i : (0 : Int) ≤ i := by omega
     obtain ⟨ad, A4, c4, eA, z0, z1, z2, z3, z4, l4, g4⟩ := at_T101 (Kd.C_below HC.out HL.out.hB) (i : Int) h0i hin
     have hk0 : kdOf ns i = (rd_T101 ns i).f0 := rfl
     have ht0 : nmOf ns i = (rd_T101 ns i).f3.data.toList := rfl
     have hsz := HSZ.out (rd_T101 ns (i : Int)) (rd24_mem ns i h0i hin)
     obtain ⟨k, hk⟩ : ∃ k, k = kdOf ns i := ⟨_, rfl⟩
     have HK := Lib.hid hk
     rw [← hk0, ← hk] at z0
     clear hk0
     obtain ⟨y, hy⟩ : ∃ y, y = rd_T101 ns (i : Int) := ⟨_, rfl⟩
     rw [← hy] at z1 z2 z3 z4 ht0 hsz
     obtain ⟨k_, n, at_, tx, kl⟩ := y
     dsimp only at z1 z2 z3 z4 ht0 hsz
     rw [Int.toNat_natCast] at z0 z1 z2 z3 z4
     have HTX := Lib.hid ht0
     have HSX := Lib.hid hsz
     have hba : Below wr.heap.size wr (wr.alloc (.cells #[.int .i64 k, .int .i64 n, .int .i64 at_, .string tx, .slice A4 kl.length c4] 101)) := below_alloc (Below.refl _ _) _
     have xa := blk_new wr (.cells #[.int .i64 k, .int .i64 n, .int .i64 at_, .string tx, .slice A4 kl.length c4] 101)
     obtain ⟨Wa, hWa⟩ : ∃ Wa, Wa = wr.alloc (.cells #[.int .i64 k, .int .i64 n, .int .i64 at_, .string tx, .slice A4 kl.length c4] 101) := ⟨_, rfl⟩
     rw [← hWa] at hba xa
     have HA := Lib.hid (HL.out.below hba)
     have HWA := Lib.hid hWa
     have q4 : Wa.cell? ⟨wr.heap.size, 3, none⟩ = some (.string tx) := (blk_cell xa 3).trans rfl
     cases eA
     clear hk hy l4 g4 hba xa ht0 hsz
     by_cases k2 : k = 2
     ·skip
      subst k2
      have HS := Lib.hid (HA.out.below (below_drew (Below.refl _ _)))
      have q3 : Wa.cell? ⟨w.heap.size + 1 + 1 + 1 + 1, 3, none⟩ = some (.map (some (w.heap.size + 1))) := (blk_cell HA.out.hp 3).trans rfl
      clear hWa
      go_wp2_with fail
      rw [← HWA.out]
      refine start_ (n := 9) (S := fun w' => w'.cell? ⟨w.heap.size + 1 + 1 + 1 + 1, 3, none⟩ = some (.map (some (w.heap.size + 1))) ∧ w'.cell? ⟨wr.heap.size, 3, none⟩ = some (.string tx)) (ds := [8]) #[false, false, false, false, false, false, false, false, false] (by kernel_rfl) rfl rfl ⟨cel_drew q3, cel_drew q4⟩ (fun hHeld => ?_)
      refine pure_ (i := 0) (N := some 92) (v := ?_) (a' := ?_) #[true, false, false, false, false, false, false, false, false] rfl rfl (by kernel_rfl) (fun _ _ _ h => h) (Or.inl ⟨by rfl, ?_⟩) ?_ ?_
      rotate_left
      ·intro w'
       go_simp
       with_reducible rfl
      rotate_left
      ·simp only [Act.put, List.setIfInBounds_toArray, List.set_cons_zero, List.set_cons_succ, i64_w, i32_w]
       rfl
      refine pure_ (i := 1) (N := some 93) (v := ?_) (a' := ?_) #[true, true, false, false, false, false, false, false, false] rfl rfl (by kernel_rfl) (fun _ _ _ h => h) (Or.inl ⟨by rfl, ?_⟩) ?_ ?_
      rotate_left
      ·intro w'
       go_simp
       with_reducible rfl
      rotate_left
      ·simp only [Act.put, List.setIfInBounds_toArray, List.set_cons_zero, List.set_cons_succ, i64_w, i32_w]
       rfl
      refine pure_ (i := 2) (N := some 94) (v := ?_) (a' := ?_) #[true, true, true, false, false, false, false, false, false] rfl rfl (by kernel_rfl) (fun _ _ _ h => h) (Or.inl ⟨by rfl, ?_⟩) ?_ ?_
      rotate_left
      ·intro w'
       go_simp
       with_reducible rfl
      rotate_left
      ·simp only [Act.put, List.setIfInBounds_toArray, List.set_cons_zero, List.set_cons_succ, i64_w, i32_w]
       rfl
      refine pure_ (i := 3) (N := some 95) (v := ?_) (a' := ?_) #[true, true, true, true, false, false, false, false, false] rfl rfl (by kernel_rfl) (fun _ _ _ h => h) (Or.inl ⟨by rfl, ?_⟩) ?_ ?_
      rotate_left
      ·intro w'
       go_simp
       with_reducible rfl
      rotate_left
      ·simp only [Act.put, List.setIfInBounds_toArray, List.set_cons_zero, List.set_cons_succ, i64_w, i32_w]
       rfl
      refine pure_ (i := 5) (N := some 97) (v := ?_) (a' := ?_) #[true, true, true, true, false, true, false, false, false] rfl rfl (by kernel_rfl) (fun _ _ _ h => h) (Or.inl ⟨by rfl, ?_⟩) ?_ ?_
      rotate_left
      ·intro w'
       go_simp
       with_reducible rfl
      rotate_left
      ·simp only [Act.put, List.setIfInBounds_toArray, List.set_cons_zero, List.set_cons_succ, i64_w, i32_w]
       rfl
      refine pure_ (i := 7) (N := some 99) (v := ?_) (a' := ?_) #[true, true, true, true, false, true, false, true, false] rfl rfl (by kernel_rfl) (fun _ _ _ h => h) (Or.inl ⟨by rfl, ?_⟩) ?_ ?_
      rotate_left
      ·intro w'
       go_simp
       with_reducible rfl
      rotate_left
      ·simp only [Act.put, List.setIfInBounds_toArray, List.set_cons_zero, List.set_cons_succ, i64_w, i32_w]
       rfl
      refine take_ (i := 4) (N := some 96) (v := ?_) (a' := ?_) #[true, true, true, true, true, true, false, true, false] rfl rfl (by kernel_rfl) (fun _ _ _ h => h) (Or.inl ⟨by rfl, ?_⟩) hHeld ?_ ?_
      rotate_left
      ·rintro w' ⟨s0, s1⟩
       go_simp
       with_reducible rfl
      rotate_left
      ·simp only [Act.put, List.setIfInBounds_toArray, List.set_cons_zero, List.set_cons_succ, i64_w, i32_w]
       rfl
      refine take_ (i := 6) (N := some 98) (v := ?_) (a' := ?_) #[true, true, true, true, true, true, true, true, false] rfl rfl (by kernel_rfl) (fun _ _ _ h => h) (Or.inl ⟨by rfl, ?_⟩) hHeld ?_ ?_
      rotate_left
      ·rintro w' ⟨s0, s1⟩
       go_simp
       with_reducible rfl
      rotate_left
      ·simp only [Act.put, List.setIfInBounds_toArray, List.set_cons_zero, List.set_cons_succ, i64_w, i32_w]
       rfl
      refine last_ (i := 8) (N := some 100) #[true, true, true, true, true, true, true, true, true] rfl rfl (by kernel_rfl) (by decide) (fun K hK => ?_)
      refine goesV_ Try.func72 (by kernel_rfl) rfl #[.map (some (w.heap.size + 1)), .string tx, .int .i64 i] (by rfl) rfl rfl (by rfl) (by simp only [List.map_toArray, List.map_cons, List.map_nil]; rfl) ?_
      with_reducible refine (first_is (w.heap.size + 1) i (glF ns i) tx HSX.out (i : Int) (wf64 (by omega) (by omega)) (by omega) Wa.drew HS.out.hG).mono ?_
      rintro e_ W5 ⟨rfl, hs5, hg5⟩
      refine ⟨_, rfl, ?_⟩
      have HL5 := Lib.hid (HS.out.glob FX.out HK.out.symm (by rw [HTX.out]; exact hs5) hg5)
      clear hs5 hg5
      refine hK.out _ _ ?_
      clear hK K
      refine norm_ (a' := ?_) ?_ ?_
      rotate_left
      ·show Act.put _ (some 100) _ = _
       simp only [Act.put, List.setIfInBounds_toArray, List.set_cons_zero, List.set_cons_succ, i64_w, i32_w]
       rfl
      refine done_ (by kernel_rfl) ?_
      go_wp2_with fail
      go_roundg (gk - 1)
      case measure => have := HN.out; omega
      case rel => exact ⟨i + 1, by norm_cast, hlt, Lib.hid (by have := HN.out; omega), HL5⟩
     by_cases k3 : k = 3
     ·skip
      subst k3
      have HS := Lib.hid (HA.out.below (below_drew (Below.refl _ _)))
      have q3 : Wa.cell? ⟨w.heap.size + 1 + 1 + 1 + 1, 4, none⟩ = some (.map (some (w.heap.size + 1 + 1))) := (blk_cell HA.out.hp 4).trans rfl
      clear hWa
      go_wp2_with fail
      rw [← HWA.out]
      refine start_ (n := 9) (S := fun w' => w'.cell? ⟨w.heap.size + 1 + 1 + 1 + 1, 4, none⟩ = some (.map (some (w.heap.size + 1 + 1))) ∧ w'.cell? ⟨wr.heap.size, 3, none⟩ = some (.string tx)) (ds := [8]) #[false, false, false, false, false, false, false, false, false] (by kernel_rfl) rfl rfl ⟨cel_drew q3, cel_drew q4⟩ (fun hHeld => ?_)
      refine pure_ (i := 0) (N := some 103) (v := ?_) (a' := ?_) #[true, false, false, false, false, false, false, false, false] rfl rfl (by kernel_rfl) (fun _ _ _ h => h) (Or.inl ⟨by rfl, ?_⟩) ?_ ?_
      rotate_left
      ·intro w'
       go_simp
       with_reducible rfl
      rotate_left
      ·simp only [Act.put, List.setIfInBounds_toArray, List.set_cons_zero, List.set_cons_succ, i64_w, i32_w]
       rfl
      refine pure_ (i := 1) (N := some 104) (v := ?_) (a' := ?_) #[true, true, false, false, false, false, false, false, false] rfl rfl (by kernel_rfl) (fun _ _ _ h => h) (Or.inl ⟨by rfl, ?_⟩) ?_ ?_
      rotate_left
      ·intro w'
       go_simp
       with_reducible rfl
      rotate_left
      ·simp only [Act.put, List.setIfInBounds_toArray, List.set_cons_zero, List.set_cons_succ, i64_w, i32_w]
       rfl
      refine pure_ (i := 2) (N := some 105) (v := ?_) (a' := ?_) #[true, true, true, false, false, false, false, false, false] rfl rfl (by kernel_rfl) (fun _ _ _ h => h) (Or.inl ⟨by rfl, ?_⟩) ?_ ?_
      rotate_left
      ·intro w'
       go_simp
       with_reducible rfl
      rotate_left
      ·simp only [Act.put, List.setIfInBounds_toArray, List.set_cons_zero, List.set_cons_succ, i64_w, i32_w]
       rfl
      refine pure_ (i := 3) (N := some 106) (v := ?_) (a' := ?_) #[true, true, true, true, false, false, false, false, false] rfl rfl (by kernel_rfl) (fun _ _ _ h => h) (Or.inl ⟨by rfl, ?_⟩) ?_ ?_
      rotate_left
      ·intro w'
       go_simp
       with_reducible rfl
      rotate_left
      ·simp only [Act.put, List.setIfInBounds_toArray, List.set_cons_zero, List.set_cons_succ, i64_w, i32_w]
       rfl
      refine pure_ (i := 5) (N := some 108) (v := ?_) (a' := ?_) #[true, true, true, true, false, true, false, false, false] rfl rfl (by kernel_rfl) (fun _ _ _ h => h) (Or.inl ⟨by rfl, ?_⟩) ?_ ?_
      rotate_left
      ·intro w'
       go_simp
       with_reducible rfl
      rotate_left
      ·simp only [Act.put, List.setIfInBounds_toArray, List.set_cons_zero, List.set_cons_succ, i64_w, i32_w]
       rfl
      refine pure_ (i := 7) (N := some 110) (v := ?_) (a' := ?_) #[true, true, true, true, false, true, false, true, false] rfl rfl (by kernel_rfl) (fun _ _ _ h => h) (Or.inl ⟨by rfl, ?_⟩) ?_ ?_
      rotate_left
      ·intro w'
       go_simp
       with_reducible rfl
      rotate_left
      ·simp only [Act.put, List.setIfInBounds_toArray, List.set_cons_zero, List.set_cons_succ, i64_w, i32_w]
       rfl
      refine take_ (i := 4) (N := some 107) (v := ?_) (a' := ?_) #[true, true, true, true, true, true, false, true, false] rfl rfl (by kernel_rfl) (fun _ _ _ h => h) (Or.inl ⟨by rfl, ?_⟩) hHeld ?_ ?_
      rotate_left
      ·rintro w' ⟨s0, s1⟩
       go_simp
       with_reducible rfl
      rotate_left
      ·simp only [Act.put, List.setIfInBounds_toArray, List.set_cons_zero, List.set_cons_succ, i64_w, i32_w]
       rfl
      refine take_ (i := 6) (N := some 109) (v := ?_) (a' := ?_) #[true, true, true, true, true, true, true, true, false] rfl rfl (by kernel_rfl) (fun _ _ _ h => h) (Or.inl ⟨by rfl, ?_⟩) hHeld ?_ ?_
      rotate_left
      ·rintro w' ⟨s0, s1⟩
       go_simp
       with_reducible rfl
      rotate_left
      ·simp only [Act.put, List.setIfInBounds_toArray, List.set_cons_zero, List.set_cons_succ, i64_w, i32_w]
       rfl
      refine last_ (i := 8) (N := some 111) #[true, true, true, true, true, true, true, true, true] rfl rfl (by kernel_rfl) (by decide) (fun K hK => ?_)
      refine goesV_ Try.func72 (by kernel_rfl) rfl #[.map (some (w.heap.size + 1 + 1)), .string tx, .int .i64 i] (by rfl) rfl rfl (by rfl) (by simp only [List.map_toArray, List.map_cons, List.map_nil]; rfl) ?_
      with_reducible refine (first_is (w.heap.size + 1 + 1) i (prF ns i) tx HSX.out (i : Int) (wf64 (by omega) (by omega)) (by omega) Wa.drew HS.out.hR).mono ?_
      rintro e_ W5 ⟨rfl, hs5, hg5⟩
      refine ⟨_, rfl, ?_⟩
      have HL5 := Lib.hid (HS.out.proc FX.out HK.out.symm (by rw [HTX.out]; exact hs5) hg5)
      clear hs5 hg5
      refine hK.out _ _ ?_
      clear hK K
      refine norm_ (a' := ?_) ?_ ?_
      rotate_left
      ·show Act.put _ (some 111) _ = _
       simp only [Act.put, List.setIfInBounds_toArray, List.set_cons_zero, List.set_cons_succ, i64_w, i32_w]
       rfl
      refine done_ (by kernel_rfl) ?_
      go_wp2_with fail
      go_roundg (gk - 1)
      case measure => have := HN.out; omega
      case rel => exact ⟨i + 1, by norm_cast, hlt, Lib.hid (by have := HN.out; omega), HL5⟩
     by_cases k45 : k = 4 ∨ k = 5
     ·skip
      have hob := (HPRE.out (i : Int) h0i hin (by rw [← HK.out]; exact k45))
      have how := (HOWN.out.2 (i : Int) h0i hin).resolve_left hob
      obtain ⟨b, hb⟩ := Option.isSome_iff_exists.1 (HL.out.hLd _ how.1 how.2.1 how.2.2)
      have HS := Lib.hid (HA.out.below (below_drew (Below.refl _ _)))
      have lk := HS.out.hL.look (rd ol (i : Int)) (wf64 (by omega) (by omega))
      rw [hb] at lk
      have q2 : Wa.cell? ⟨w.heap.size + 1 + 1 + 1 + 1, 2, none⟩ = some (.slice (some ⟨bo, 0, none⟩) ns.length ns.length) := (blk_cell HA.out.hp 2).trans rfl
      have q5 : Wa.cell? ⟨w.heap.size + 1 + 1 + 1 + 1, 5, none⟩ = some (.map (some (w.heap.size + 1 + 1 + 1))) := (blk_cell HA.out.hp 5).trans rfl
      have qo : Wa.cell? ⟨bo, i, none⟩ = some (.int .i64 (rd ol (i : Int))) := by
       have := (blk_cell HA.out.hO ((i : Int).toNat)).trans (intCells_get ol (i : Int) h0i (by rw [HOWN.out.1]; exact hin))
       simpa using this
      have HSB := Lib.hid (HS.out.hLs _ b hb).1
      have HCC := Lib.hid (fun (W' : World) (h1 : SMap W' b (i + 1) (keepFirst (loF ns ol (rd ol (i : Int)) i) (nmOf ns i) i)) (h2 : Wa.drew.grownBy W' (some b)) => HS.out.loc FX.out (by rw [← HK.out]; exact k45) b hb h1 h2)
      obtain ⟨o, ho⟩ : ∃ o, o = rd ol (i : Int) := ⟨_, rfl⟩
      rw [← ho] at HSB HCC lk qo
      clear hWa hob how hb ho
      rcases k45 with k4 | k5
      ·subst k4
       go_wp2_with fail
       rw [← HWA.out]
       refine start_ (n := 17) (S := fun w' => w'.cell? ⟨w.heap.size + 1 + 1 + 1 + 1, 5, none⟩ = some (.map (some (w.heap.size + 1 + 1 + 1))) ∧ w'.cell? ⟨w.heap.size + 1 + 1 + 1 + 1, 2, none⟩ = some (.slice (some ⟨bo, 0, none⟩) ns.length ns.length) ∧ w'.cell? ⟨bo, i, none⟩ = some (.int .i64 o) ∧ (Instr.lookup 127 (.map (some (w.heap.size + 1 + 1 + 1))) (.int .i64 o) false).run Try.prog w' = .ok (.map (some b)) w' ∧ w'.cell? ⟨wr.heap.size, 3, none⟩ = some (.string tx)) (ds := [16]) #[false, false, false, false, false, false, false, false, false, false, false, false, false, false, false, false, false] (by kernel_rfl) rfl rfl ⟨cel_drew q5, cel_drew q2, cel_drew qo, lk, cel_drew q4⟩ (fun hHeld => ?_)
       refine pure_ (i := 0) (N := some 115) (v := ?_) (a' := ?_) #[true, false, false, false, false, false, false, false, false, false, false, false, false, false, false, false, false] rfl rfl (by kernel_rfl) (fun _ _ _ h => h) (Or.inl ⟨by rfl, ?_⟩) ?_ ?_
       rotate_left
       ·intro w'
        go_simp
        with_reducible rfl
       rotate_left
       ·simp only [Act.put, List.setIfInBounds_toArray, List.set_cons_zero, List.set_cons_succ, i64_w, i32_w]
        rfl
       refine pure_ (i := 1) (N := some 116) (v := ?_) (a' := ?_) #[true, true, false, false, false, false, false, false, false, false, false, false, false, false, false, false, false] rfl rfl (by kernel_rfl) (fun _ _ _ h => h) (Or.inl ⟨by rfl, ?_⟩) ?_ ?_
       rotate_left
       ·intro w'
        go_simp
        with_reducible rfl
       rotate_left
       ·simp only [Act.put, List.setIfInBounds_toArray, List.set_cons_zero, List.set_cons_succ, i64_w, i32_w]
        rfl
       refine pure_ (i := 2) (N := some 117) (v := ?_) (a' := ?_) #[true, true, true, false, false, false, false, false, false, false, false, false, false, false, false, false, false] rfl rfl (by kernel_rfl) (fun _ _ _ h => h) (Or.inl ⟨by rfl, ?_⟩) ?_ ?_
       rotate_left
       ·intro w'
        go_simp
        with_reducible rfl
       rotate_left
       ·simp only [Act.put, List.setIfInBounds_toArray, List.set_cons_zero, List.set_cons_succ, i64_w, i32_w]
        rfl
       refine pure_ (i := 3) (N := some 118) (v := ?_) (a' := ?_) #[true, true, true, true, false, false, false, false, false, false, false, false, false, false, false, false, false] rfl rfl (by kernel_rfl) (fun _ _ _ h => h) (Or.inl ⟨by rfl, ?_⟩) ?_ ?_
       rotate_left
       ·intro w'
        go_simp
        with_reducible rfl
       rotate_left
       ·simp only [Act.put, List.setIfInBounds_toArray, List.set_cons_zero, List.set_cons_succ, i64_w, i32_w]
        rfl
       refine pure_ (i := 5) (N := some 120) (v := ?_) (a' := ?_) #[true, true, true, true, false, true, false, false, false, false, false, false, false, false, false, false, false] rfl rfl (by kernel_rfl) (fun _ _ _ h => h) (Or.inl ⟨by rfl, ?_⟩) ?_ ?_
       rotate_left
       ·intro w'
        go_simp
        with_reducible rfl
       rotate_left
       ·simp only [Act.put, List.setIfInBounds_toArray, List.set_cons_zero, List.set_cons_succ, i64_w, i32_w]
        rfl
       refine pure_ (i := 6) (N := some 121) (v := ?_) (a' := ?_) #[true, true, true, true, false, true, true, false, false, false, false, false, false, false, false, false, false] rfl rfl (by kernel_rfl) (fun _ _ _ h => h) (Or.inl ⟨by rfl, ?_⟩) ?_ ?_
       rotate_left
       ·intro w'
        go_simp
        with_reducible rfl
       rotate_left
       ·simp only [Act.put, List.setIfInBounds_toArray, List.set_cons_zero, List.set_cons_succ, i64_w, i32_w]
        rfl
       refine pure_ (i := 7) (N := some 122) (v := ?_) (a' := ?_) #[true, true, true, true, false, true, true, true, false, false, false, false, false, false, false, false, false] rfl rfl (by kernel_rfl) (fun _ _ _ h => h) (Or.inl ⟨by rfl, ?_⟩) ?_ ?_
       rotate_left
       ·intro w'
        go_simp
        with_reducible rfl
       rotate_left
       ·simp only [Act.put, List.setIfInBounds_toArray, List.set_cons_zero, List.set_cons_succ, i64_w, i32_w]
        rfl
       refine pure_ (i := 9) (N := some 124) (v := ?_) (a' := ?_) #[true, true, true, true, false, true, true, true, false, true, false, false, false, false, false, false, false] rfl rfl (by kernel_rfl) (fun _ _ _ h => h) (Or.inl ⟨by rfl, ?_⟩) ?_ ?_
       rotate_left
       ·intro w'
        go_simp
        with_reducible rfl
       rotate_left
       ·simp only [Act.put, List.setIfInBounds_toArray, List.set_cons_zero, List.set_cons_succ, i64_w, i32_w]
        rfl
       refine pure_ (i := 13) (N := some 128) (v := ?_) (a' := ?_) #[true, true, true, true, false, true, true, true, false, true, false, false, false, true, false, false, false] rfl rfl (by kernel_rfl) (fun _ _ _ h => h) (Or.inl ⟨by rfl, ?_⟩) ?_ ?_
       rotate_left
       ·intro w'
        go_simp
        with_reducible rfl
       rotate_left
       ·simp only [Act.put, List.setIfInBounds_toArray, List.set_cons_zero, List.set_cons_succ, i64_w, i32_w]
        rfl
       refine pure_ (i := 15) (N := some 130) (v := ?_) (a' := ?_) #[true, true, true, true, false, true, true, true, false, true, false, false, false, true, false, true, false] rfl rfl (by kernel_rfl) (fun _ _ _ h => h) (Or.inl ⟨by rfl, ?_⟩) ?_ ?_
       rotate_left
       ·intro w'
        go_simp
        with_reducible rfl
       rotate_left
       ·simp only [Act.put, List.setIfInBounds_toArray, List.set_cons_zero, List.set_cons_succ, i64_w, i32_w]
        rfl
       refine take_ (i := 4) (N := some 119) (v := ?_) (a' := ?_) #[true, true, true, true, true, true, true, true, false, true, false, false, false, true, false, true, false] rfl rfl (by kernel_rfl) (fun _ _ _ h => h) (Or.inl ⟨by rfl, ?_⟩) hHeld ?_ ?_
       rotate_left
       ·rintro w' ⟨s0, s1, s2, s3, s4⟩
        go_simp
        with_reducible rfl
       rotate_left
       ·simp only [Act.put, List.setIfInBounds_toArray, List.set_cons_zero, List.set_cons_succ, i64_w, i32_w]
        rfl
       refine take_ (i := 8) (N := some 123) (v := ?_) (a' := ?_) #[true, true, true, true, true, true, true, true, true, true, false, false, false, true, false, true, false] rfl rfl (by kernel_rfl) (fun _ _ _ h => h) (Or.inl ⟨by rfl, ?_⟩) hHeld ?_ ?_
       rotate_left
       ·rintro w' ⟨s0, s1, s2, s3, s4⟩
        go_simp
        with_reducible rfl
       rotate_left
       ·simp only [Act.put, List.setIfInBounds_toArray, List.set_cons_zero, List.set_cons_succ, i64_w, i32_w]
        rfl
       refine pure_ (i := 10) (N := some 125) (v := ?_) (a' := ?_) #[true, true, true, true, true, true, true, true, true, true, true, false, false, true, false, true, false] rfl rfl (by kernel_rfl) (fun _ _ _ h => h) (Or.inl ⟨by rfl, ?_⟩) ?_ ?_
       rotate_left
       ·intro w'
        go_simp
        with_reducible rfl
       rotate_left
       ·simp only [Act.put, List.setIfInBounds_toArray, List.set_cons_zero, List.set_cons_succ, i64_w, i32_w]
        rfl
       refine take_ (i := 11) (N := some 126) (v := ?_) (a' := ?_) #[true, true, true, true, true, true, true, true, true, true, true, true, false, true, false, true, false] rfl rfl (by kernel_rfl) (fun _ _ _ h => h) (Or.inl ⟨by rfl, ?_⟩) hHeld ?_ ?_
       rotate_left
       ·rintro w' ⟨s0, s1, s2, s3, s4⟩
        go_simp
        with_reducible rfl
       rotate_left
       ·simp only [Act.put, List.setIfInBounds_toArray, List.set_cons_zero, List.set_cons_succ, i64_w, i32_w]
        rfl
       refine take_ (i := 12) (N := some 127) (v := ?_) (a' := ?_) #[true, true, true, true, true, true, true, true, true, true, true, true, true, true, false, true, false] rfl rfl (by kernel_rfl) (fun _ _ _ h => h) (Or.inl ⟨by rfl, ?_⟩) hHeld ?_ ?_
       rotate_left
       ·rintro w' ⟨s0, s1, s2, s3, s4⟩
        go_simp
        with_reducible rfl
       rotate_left
       ·simp only [Act.put, List.setIfInBounds_toArray, List.set_cons_zero, List.set_cons_succ, i64_w, i32_w]
        rfl
       refine take_ (i := 14) (N := some 129) (v := ?_) (a' := ?_) #[true, true, true, true, true, true, true, true, true, true, true, true, true, true, true, true, false] rfl rfl (by kernel_rfl) (fun _ _ _ h => h) (Or.inl ⟨by rfl, ?_⟩) hHeld ?_ ?_
       rotate_left
       ·rintro w' ⟨s0, s1, s2, s3, s4⟩
        go_simp
        with_reducible rfl
       rotate_left
       ·simp only [Act.put, List.setIfInBounds_toArray, List.set_cons_zero, List.set_cons_succ, i64_w, i32_w]
        rfl
       refine last_ (i := 16) (N := some 131) #[true, true, true, true, true, true, true, true, true, true, true, true, true, true, true, true, true] rfl rfl (by kernel_rfl) (by decide) (fun K hK => ?_)
       refine goesV_ Try.func72 (by kernel_rfl) rfl #[.map (some b), .string tx, .int .i64 i] (by rfl) rfl rfl (by rfl) (by simp only [List.map_toArray, List.map_cons, List.map_nil]; rfl) ?_
       with_reducible refine (first_is b i (loF ns ol o i) tx HSX.out (i : Int) (wf64 (by omega) (by omega)) (by omega) Wa.drew HSB.out).mono ?_
       rintro e_ W5 ⟨rfl, hs5, hg5⟩
       refine ⟨_, rfl, ?_⟩
       have HL5 := Lib.hid (HCC.out W5 (by rw [HTX.out]; exact hs5) hg5)
       clear hs5 hg5
       refine hK.out _ _ ?_
       clear hK K
       refine norm_ (a' := ?_) ?_ ?_
       rotate_left
       ·show Act.put _ (some 131) _ = _
        simp only [Act.put, List.setIfInBounds_toArray, List.set_cons_zero, List.set_cons_succ, i64_w, i32_w]
        rfl
       refine done_ (by kernel_rfl) ?_
       go_wp2_with fail
       go_roundg (gk - 1)
       case measure => have := HN.out; omega
       case rel => exact ⟨i + 1, by norm_cast, hlt, Lib.hid (by have := HN.out; omega), HL5⟩
      ·subst k5
       go_wp2_with fail
       rw [← HWA.out]
       refine start_ (n := 17) (S := fun w' => w'.cell? ⟨w.heap.size + 1 + 1 + 1 + 1, 5, none⟩ = some (.map (some (w.heap.size + 1 + 1 + 1))) ∧ w'.cell? ⟨w.heap.size + 1 + 1 + 1 + 1, 2, none⟩ = some (.slice (some ⟨bo, 0, none⟩) ns.length ns.length) ∧ w'.cell? ⟨bo, i, none⟩ = some (.int .i64 o) ∧ (Instr.lookup 127 (.map (some (w.heap.size + 1 + 1 + 1))) (.int .i64 o) false).run Try.prog w' = .ok (.map (some b)) w' ∧ w'.cell? ⟨wr.heap.size, 3, none⟩ = some (.string tx)) (ds := [16]) #[false, false, false, false, false, false, false, false, false, false, false, false, false, false, false, false, false] (by kernel_rfl) rfl rfl ⟨cel_drew q5, cel_drew q2, cel_drew qo, lk, cel_drew q4⟩ (fun hHeld => ?_)
       refine pure_ (i := 0) (N := some 115) (v := ?_) (a' := ?_) #[true, false, false, false, false, false, false, false, false, false, false, false, false, false, false, false, false] rfl rfl (by kernel_rfl) (fun _ _ _ h => h) (Or.inl ⟨by rfl, ?_⟩) ?_ ?_
       rotate_left
       ·intro w'
        go_simp
        with_reducible rfl
       rotate_left
       ·simp only [Act.put, List.setIfInBounds_toArray, List.set_cons_zero, List.set_cons_succ, i64_w, i32_w]
        rfl
       refine pure_ (i := 1) (N := some 116) (v := ?_) (a' := ?_) #[true, true, false, false, false, false, false, false, false, false, false, false, false, false, false, false, false] rfl rfl (by kernel_rfl) (fun _ _ _ h => h) (Or.inl ⟨by rfl, ?_⟩) ?_ ?_
       rotate_left
       ·intro w'
        go_simp
        with_reducible rfl
       rotate_left
       ·simp only [Act.put, List.setIfInBounds_toArray, List.set_cons_zero, List.set_cons_succ, i64_w, i32_w]
        rfl
       refine pure_ (i := 2) (N := some 117) (v := ?_) (a' := ?_) #[true, true, true, false, false, false, false, false, false, false, false, false, false, false, false, false, false] rfl rfl (by kernel_rfl) (fun _ _ _ h => h) (Or.inl ⟨by rfl, ?_⟩) ?_ ?_
       rotate_left
       ·intro w'
        go_simp
        with_reducible rfl
       rotate_left
       ·simp only [Act.put, List.setIfInBounds_toArray, List.set_cons_zero, List.set_cons_succ, i64_w, i32_w]
        rfl
       refine pure_ (i := 3) (N := some 118) (v := ?_) (a' := ?_) #[true, true, true, true, false, false, false, false, false, false, false, false, false, false, false, false, false] rfl rfl (by kernel_rfl) (fun _ _ _ h => h) (Or.inl ⟨by rfl, ?_⟩) ?_ ?_
       rotate_left
       ·intro w'
        go_simp
        with_reducible rfl
       rotate_left
       ·simp only [Act.put, List.setIfInBounds_toArray, List.set_cons_zero, List.set_cons_succ, i64_w, i32_w]
        rfl
       refine pure_ (i := 5) (N := some 120) (v := ?_) (a' := ?_) #[true, true, true, true, false, true, false, false, false, false, false, false, false, false, false, false, false] rfl rfl (by kernel_rfl) (fun _ _ _ h => h) (Or.inl ⟨by rfl, ?_⟩) ?_ ?_
       rotate_left
       ·intro w'
        go_simp
        with_reducible rfl
       rotate_left
       ·simp only [Act.put, List.setIfInBounds_toArray, List.set_cons_zero, List.set_cons_succ, i64_w, i32_w]
        rfl
       refine pure_ (i := 6) (N := some 121) (v := ?_) (a' := ?_) #[true, true, true, true, false, true, true, false, false, false, false, false, false, false, false, false, false] rfl rfl (by kernel_rfl) (fun _ _ _ h => h) (Or.inl ⟨by rfl, ?_⟩) ?_ ?_
       rotate_left
       ·intro w'
        go_simp
        with_reducible rfl
       rotate_left
       ·simp only [Act.put, List.setIfInBounds_toArray, List.set_cons_zero, List.set_cons_succ, i64_w, i32_w]
        rfl
       refine pure_ (i := 7) (N := some 122) (v := ?_) (a' := ?_) #[true, true, true, true, false, true, true, true, false, false, false, false, false, false, false, false, false] rfl rfl (by kernel_rfl) (fun _ _ _ h => h) (Or.inl ⟨by rfl, ?_⟩) ?_ ?_
       rotate_left
       ·intro w'
        go_simp
        with_reducible rfl
       rotate_left
       ·simp only [Act.put, List.setIfInBounds_toArray, List.set_cons_zero, List.set_cons_succ, i64_w, i32_w]
        rfl
       refine pure_ (i := 9) (N := some 124) (v := ?_) (a' := ?_) #[true, true, true, true, false, true, true, true, false, true, false, false, false, false, false, false, false] rfl rfl (by kernel_rfl) (fun _ _ _ h => h) (Or.inl ⟨by rfl, ?_⟩) ?_ ?_
       rotate_left
       ·intro w'
        go_simp
        with_reducible rfl
       rotate_left
       ·simp only [Act.put, List.setIfInBounds_toArray, List.set_cons_zero, List.set_cons_succ, i64_w, i32_w]
        rfl
       refine pure_ (i := 13) (N := some 128) (v := ?_) (a' := ?_) #[true, true, true, true, false, true, true, true, false, true, false, false, false, true, false, false, false] rfl rfl (by kernel_rfl) (fun _ _ _ h => h) (Or.inl ⟨by rfl, ?_⟩) ?_ ?_
       rotate_left
       ·intro w'
        go_simp
        with_reducible rfl
       rotate_left
       ·simp only [Act.put, List.setIfInBounds_toArray, List.set_cons_zero, List.set_cons_succ, i64_w, i32_w]
        rfl
       refine pure_ (i := 15) (N := some 130) (v := ?_) (a' := ?_) #[true, true, true, true, false, true, true, true, false, true, false, false, false, true, false, true, false] rfl rfl (by kernel_rfl) (fun _ _ _ h => h) (Or.inl ⟨by rfl, ?_⟩) ?_ ?_
       rotate_left
       ·intro w'
        go_simp
        with_reducible rfl
       rotate_left
       ·simp only [Act.put, List.setIfInBounds_toArray, List.set_cons_zero, List.set_cons_succ, i64_w, i32_w]
        rfl
       refine take_ (i := 4) (N := some 119) (v := ?_) (a' := ?_) #[true, true, true, true, true, true, true, true, false, true, false, false, false, true, false, true, false] rfl rfl (by kernel_rfl) (fun _ _ _ h => h) (Or.inl ⟨by rfl, ?_⟩) hHeld ?_ ?_
       rotate_left
       ·rintro w' ⟨s0, s1, s2, s3, s4⟩
        go_simp
        with_reducible rfl
       rotate_left
       ·simp only [Act.put, List.setIfInBounds_toArray, List.set_cons_zero, List.set_cons_succ, i64_w, i32_w]
        rfl
       refine take_ (i := 8) (N := some 123) (v := ?_) (a' := ?_) #[true, true, true, true, true, true, true, true, true, true, false, false, false, true, false, true, false] rfl rfl (by kernel_rfl) (fun _ _ _ h => h) (Or.inl ⟨by rfl, ?_⟩) hHeld ?_ ?_
       rotate_left
       ·rintro w' ⟨s0, s1, s2, s3, s4⟩
        go_simp
        with_reducible rfl
       rotate_left
       ·simp only [Act.put, List.setIfInBounds_toArray, List.set_cons_zero, List.set_cons_succ, i64_w, i32_w]
        rfl
       refine pure_ (i := 10) (N := some 125) (v := ?_) (a' := ?_) #[true, true, true, true, true, true, true, true, true, true, true, false, false, true, false, true, false] rfl rfl (by kernel_rfl) (fun _ _ _ h => h) (Or.inl ⟨by rfl, ?_⟩) ?_ ?_
       rotate_left
       ·intro w'
        go_simp
        with_reducible rfl
       rotate_left
       ·simp only [Act.put, List.setIfInBounds_toArray, List.set_cons_zero, List.set_cons_succ, i64_w, i32_w]
        rfl
       refine take_ (i := 11) (N := some 126) (v := ?_) (a' := ?_) #[true, true, true, true, true, true, true, true, true, true, true, true, false, true, false, true, false] rfl rfl (by kernel_rfl) (fun _ _ _ h => h) (Or.inl ⟨by rfl, ?_⟩) hHeld ?_ ?_
       rotate_left
       ·rintro w' ⟨s0, s1, s2, s3, s4⟩
        go_simp
        with_reducible rfl
       rotate_left
       ·simp only [Act.put, List.setIfInBounds_toArray, List.set_cons_zero, List.set_cons_succ, i64_w, i32_w]
        rfl
       refine take_ (i := 12) (N := some 127) (v := ?_) (a' := ?_) #[true, true, true, true, true, true, true, true, true, true, true, true, true, true, false, true, false] rfl rfl (by kernel_rfl) (fun _ _ _ h => h) (Or.inl ⟨by rfl, ?_⟩) hHeld ?_ ?_
       rotate_left
       ·rintro w' ⟨s0, s1, s2, s3, s4⟩
        go_simp
        with_reducible rfl
       rotate_left
       ·simp only [Act.put, List.setIfInBounds_toArray, List.set_cons_zero, List.set_cons_succ, i64_w, i32_w]
        rfl
       refine take_ (i := 14) (N := some 129) (v := ?_) (a' := ?_) #[true, true, true, true, true, true, true, true, true, true, true, true, true, true, true, true, false] rfl rfl (by kernel_rfl) (fun _ _ _ h => h) (Or.inl ⟨by rfl, ?_⟩) hHeld ?_ ?_
       rotate_left
       ·rintro w' ⟨s0, s1, s2, s3, s4⟩
        go_simp
        with_reducible rfl
       rotate_left
       ·simp only [Act.put, List.setIfInBounds_toArray, List.set_cons_zero, List.set_cons_succ, i64_w, i32_w]
        rfl
       refine last_ (i := 16) (N := some 131) #[true, true, true, true, true, true, true, true, true, true, true, true, true, true, true, true, true] rfl rfl (by kernel_rfl) (by decide) (fun K hK => ?_)
       refine goesV_ Try.func72 (by kernel_rfl) rfl #[.map (some b), .string tx, .int .i64 i] (by rfl) rfl rfl (by rfl) (by simp only [List.map_toArray, List.map_cons, List.map_nil]; rfl) ?_
       with_reducible refine (first_is b i (loF ns ol o i) tx HSX.out (i : Int) (wf64 (by omega) (by omega)) (by omega) Wa.drew HSB.out).mono ?_
       rintro e_ W5 ⟨rfl, hs5, hg5⟩
       refine ⟨_, rfl, ?_⟩
       have HL5 := Lib.hid (HCC.out W5 (by rw [HTX.out]; exact hs5) hg5)
       clear hs5 hg5
       refine hK.out _ _ ?_
       clear hK K
       refine norm_ (a' := ?_) ?_ ?_
       rotate_left
       ·show Act.put _ (some 131) _ = _
        simp only [Act.put, List.setIfInBounds_toArray, List.set_cons_zero, List.set_cons_succ, i64_w, i32_w]
        rfl
       refine done_ (by kernel_rfl) ?_
       go_wp2_with fail
       go_roundg (gk - 1)
       case measure => have := HN.out; omega
       case rel => exact ⟨i + 1, by norm_cast, hlt, Lib.hid (by have := HN.out; omega), HL5⟩
     have k4 : k ≠ 4 := fun e => k45 (.inl e)
     have k5 : k ≠ 5 := fun e => k45 (.inr e)
     have HL5 := Lib.hid (HA.out.skip (by rw [← HK.out]; exact k2) (by rw [← HK.out]; exact k3) (by rw [← HK.out]; exact k4) (by rw [← HK.out]; exact k5))
     clear k45 hWa
     go_wp2_with fail
     rw [← HWA.out]
     go_roundg (gk - 1)
     case measure => have := HN.out; omega
     case rel => exact ⟨i + 1, by norm_cast, hlt, Lib.hid (by have := HN.out; omega), HL5⟩
    ·obtain rfl : i = ns.length := by omega
     go_wp2_with fail
     go_ret
     exact ⟨_, rfl, HL.out.done HOWN.out HC.out hct hn HSZ.out, HL.out.hB⟩
end Go.Proofs.Ytkhlfdcjgooogaa.P
