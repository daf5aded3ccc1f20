/- TreeDepths: the walk of the law. -/
import Derived.Test.YtpggidmpkhmijaaHshown
import Derived.Test.YtpggidmpkhmijaaPf9
import Derived.Test.YtpggidmpkhmijaaPf16
import Derived.Deep.RegionHeld3
import Derived.Test.YtpggidmpkhmijaaPureA
namespace Go.Proofs.Ytpggidmpkhmijaa.P
open Go.RowKit Go.Proofs.YtpggidmpkhmijaaW.PrintWords Go.Proofs.YtpggidmpkhmijaaW.PrintLast Go.Proofs.YtpggidmpkhmijaaW.PrintMore
set_option linter.unusedVariables false
set_option linter.unusedSimpArgs false
theorem shown_calls (w : World) : Calls Try.prog 8 #[] w fun e w' => e = .returned (.bool true) ∧ Below w.heap.size w w' := runnellaw4_shown.calls true w rfl

/-- The law's own copy of the tree lies where it lay, and is read as ever. -/
structure TW (w W : World) (A : Option Addr) (c : Nat) (l : List S24) (root : Int) : Prop where
  z : w.heap.size < W.heap.size
  t0 : W.cell? ⟨w.heap.size, 0, none⟩ = some (.slice A l.length c)
  t1 : W.cell? ⟨w.heap.size, 1, none⟩ = some (.int .i64 root)
  C : Kd.C k24 W A l.length l
  below : Below w.heap.size w W
theorem TW.new {w : World} {A : Option Addr} {c : Nat} {l : List S24} (root : Int) (h : Kd.C k24 w A l.length l) : TW w (w.alloc (.cells #[.slice A l.length c, .int .i64 root] 30)) A c l root :=
  ⟨by simp, by go_simp, by go_simp, Kd.C_alloc h _, (Below.refl _ _).alloc (Nat.le_refl _) _⟩
theorem TW.step {w W W' : World} {A : Option Addr} {c : Nat} {l : List S24} {root : Int} (h : TW w W A c l root) (hb : Below W.heap.size W W') : TW w W' A c l root :=
  ⟨Nat.lt_of_lt_of_le h.z hb.size, (hb.cell (p := ⟨w.heap.size, 0, none⟩) h.z).trans h.t0, (hb.cell (p := ⟨w.heap.size, 1, none⟩) h.z).trans h.t1, Kd.C_below h.C hb, h.below.trans (hb.mono (Nat.le_of_lt h.z))⟩
theorem TW.alloc {w W : World} {A : Option Addr} {c : Nat} {l : List S24} {root : Int} (h : TW w W A c l root) (o : Obj) : TW w (W.alloc o) A c l root := h.step ((Below.refl _ _).alloc (Nat.le_refl _) _)
theorem TW.drewN {w W : World} {A : Option Addr} {c : Nat} {l : List S24} {root : Int} (h : TW w W A c l root) (n : Nat) : TW w (W.drewN n) A c l root := h.step (pw_below_drewN (Below.refl _ _) _)

set_option maxRecDepth 100000 in
set_option maxHeartbeats 4000000 in
/-- Where the tree can't be gone through, or isn't sound. -/
theorem TreeDepths_out (A : Option Addr) (c : Nat) (l : List S24) (root p : Int) (k : Nat) (b sb : Bool) (w : World) (hr : Kd.C k24 w A l.length l) (hc : l.length ≤ c)
    (hsm : runnellaw4_small.f k [⟨l, root⟩] = some b) (hS : tree_Sound.f l root = some sb) (hb : b = false ∨ sb = false) :
    Calls Try.prog 5 #[.agg #[.slice A l.length c, .int .i64 root], .int .i64 p] w fun e w' => e = .returned (.bool true) ∧ Below w.heap.size w w' := by
  have T0 := Aside0.mk (TW.new (c := c) root hr)
  have HC := Aside0.mk hc
  have HSM := Lib.hid hsm
  have HSO := Lib.hid hS
  clear hr hc hsm hS
  have hu30 := Try.underlying30
  have hu24 := Try.underlying24
  go_enter Try.func5, Try.ntmps5
  go_wp2_with fail
  refine (shown_calls _).mono ?_
  rintro e w1 ⟨rfl, hb1⟩
  have T1 := Aside0.mk (T0.out.step hb1)
  have z1 := T1.out.z
  have t10 := T1.out.t0
  have t11 := T1.out.t1
  clear hb1
  go_wp2_with fail
  refine (runnellaw4_small.calls k _ 1 [⟨l, root⟩] b _ ?hn1 (Nat.le_refl _) HSM.out).mono ?_
  case hn1 => exact nodeC w1 A c l root T1.out.C HC.out
  rintro e w2 ⟨rfl, ⟨n2, rfl⟩⟩
  have T2 := Aside0.mk ((T1.out.alloc (.cells #[.slice A l.length c, .int .i64 root] 30)).drewN n2)
  cases b with
  | false =>
    go_wp2
    go_ret
    exact ⟨rfl, T2.out.below⟩
  | true =>
    have hsb : sb = false := by simpa using hb
    subst hsb
    go_wp2_with fail
    refine (tree_Sound.calls A c l root false _ T2.out.C HC.out HSO.out).mono ?_
    rintro e w3 ⟨rfl, hb3⟩
    have T3 := Aside0.mk (T2.out.step hb3)
    go_wp2
    go_ret
    exact ⟨rfl, T3.out.below⟩

set_option maxRecDepth 100000 in
set_option maxHeartbeats 4000000 in
/-- Where the place is none of the tree's. -/
theorem TreeDepths_no (A : Option Addr) (c : Nat) (l : List S24) (root p : Int) (k : Nat) (w : World) (hr : Kd.C k24 w A l.length l) (hc : l.length ≤ c)
    (hsm : runnellaw4_small.f k [⟨l, root⟩] = some true) (hS : tree_Sound.f l root = some true) (hsub : tree_Sub.f k l root p = some ([], 0)) (hdep : tree_Depth.f k [] 0 = some 0) (hp : p < 0 ∨ (0 ≤ p ∧ p ≥ (l.length : Int))) :
    Calls Try.prog 5 #[.agg #[.slice A l.length c, .int .i64 root], .int .i64 p] w fun e w' => e = .returned (.bool true) ∧ Below w.heap.size w w' := by
  have T0 := Aside0.mk (TW.new (c := c) root hr)
  have HC := Aside0.mk hc
  have HSM := Lib.hid hsm
  have HSO := Lib.hid hS
  have HSU := Lib.hid hsub
  have HDE := Lib.hid hdep
  clear hr hc hsm hS hsub hdep
  have hu30 := Try.underlying30
  have hu24 := Try.underlying24
  go_enter Try.func5, Try.ntmps5
  go_wp2_with fail
  refine (shown_calls _).mono ?_
  rintro e w1 ⟨rfl, hb1⟩
  have T1 := Aside0.mk (T0.out.step hb1)
  have z1 := T1.out.z
  have t10 := T1.out.t0
  have t11 := T1.out.t1
  clear hb1
  go_wp2_with fail
  refine (runnellaw4_small.calls k _ 1 [⟨l, root⟩] true _ ?hn1 (Nat.le_refl _) HSM.out).mono ?_
  case hn1 => exact nodeC w1 A c l root T1.out.C HC.out
  rintro e w2 ⟨rfl, ⟨n2, rfl⟩⟩
  have T2 := Aside0.mk ((T1.out.alloc (.cells #[.slice A l.length c, .int .i64 root] 30)).drewN n2)
  go_wp2_with fail
  refine (tree_Sound.calls A c l root true _ T2.out.C HC.out HSO.out).mono ?_
  rintro e w3 ⟨rfl, hb3⟩
  have T3 := Aside0.mk (T2.out.step hb3)
  have z3 := T3.out.z
  have t30 := T3.out.t0
  have t31 := T3.out.t1
  clear hb3
  go_wp2_with fail
  refine (tree_Sub.calls k A c l root p [] 0 _ T3.out.C HC.out HSU.out).mono ?_
  rintro e w4 ⟨v4, rfl, hS4, hb4⟩
  obtain ⟨A4, c4, rfl, hl4, hC4⟩ := Kd.S_reads hS4
  have T4 := Aside0.mk (T3.out.step hb4)
  have z4 := T4.out.z
  have t40 := T4.out.t0
  have t41 := T4.out.t1
  have HC4 := Aside0.mk hC4
  have HL4 := Aside0.mk hl4
  clear hb4 hC4 hl4 hS4
  rcases hp with hp | ⟨hp0, hp1⟩
  · go_wp2_with fail
    refine (tree_Depth.calls k A4 c4 [] 0 0 _ ?hn5 HL4.out HDE.out).mono ?_
    case hn5 => exact Kd.C_alloc HC4.out _
    rintro e w5 ⟨rfl, hb5⟩
    go_wp2
    go_ret
    exact ⟨rfl, ((T4.out.alloc _).step hb5).below⟩
  · go_wp2_with fail
    refine (tree_Depth.calls k A4 c4 [] 0 0 _ ?hn6 HL4.out HDE.out).mono ?_
    case hn6 => exact Kd.C_alloc HC4.out _
    rintro e w5 ⟨rfl, hb5⟩
    go_wp2
    go_ret
    exact ⟨rfl, ((T4.out.alloc _).step hb5).below⟩

theorem cell_new {X : World} {cs : Array Value} {t n j : Nat} {v : Value} (hn : n = X.heap.size) (h : cs[j]? = some v) : (X.alloc (.cells cs t)).cell? ⟨n, j, none⟩ = some v := by
  subst hn
  exact (blk_cell (heap_alloc_new X _) j).trans h
theorem cell_old {X : World} {o : Obj} {a : Addr} {v : Value} (h : X.cell? a = some v) : (X.alloc o).cell? a = some v := pw_cell_below ((Below.refl _ _).alloc (Nat.le_refl _) _) h
theorem belT {X Y Z : World} (h : Aside0 (Below X.heap.size X Y)) (k : Aside0 (Below Y.heap.size Y Z)) : Aside0 (Below X.heap.size X Z) := ⟨h.out.trans (k.out.mono h.out.size)⟩
theorem cast0 (n : Nat) : ((n : Int) == 0) = (n == 0) := by rw [Bool.eq_iff_iff]; simp
/-- What the law asks of a place that is one of the tree's. -/
structure DepthsFacts (k : Nat) (l : List S24) (root p : Int) (sn : List S24) (sr ds dt : Int) : Prop where
  small : runnellaw4_small.f k [⟨l, root⟩] = some true
  sound : tree_Sound.f l root = some true
  sub : tree_Sub.f k l root p = some (sn, sr)
  p0 : 0 ≤ p
  p1 : p < (l.length : Int)
  kids : ∀ (j : Nat) (h : j < (rd_T24 l p).f4.length), ∃ kn kr dk, tree_Sub.f k l root (rd_T24 l p).f4[j] = some (kn, kr) ∧ tree_Depth.f k kn kr = some dk ∧ dk < ds
  soundS : tree_Sound.f sn sr = some true
  depS : tree_Depth.f k sn sr = some ds
  depT : tree_Depth.f k l root = some dt
  le : ds ≤ dt
  len : sn.length ≤ l.length
  r0 : 0 ≤ sr
  r1 : sr < (sn.length : Int)
  kind : (rd_T24 sn sr).f0 = (rd_T24 l p).f0
  one : (ds == 1) = ((rd_T24 l p).f4.length == 0)

set_option maxRecDepth 100000 in
set_option maxHeartbeats 8000000 in
theorem TreeDepths_in (A : Option Addr) (c : Nat) (l : List S24) (root p : Int) (k : Nat) (sn : List S24) (sr ds dt : Int) (w : World) (hr : Kd.C k24 w A l.length l) (hc : l.length ≤ c) (F : DepthsFacts k l root p sn sr ds dt) :
    Calls Try.prog 5 #[.agg #[.slice A l.length c, .int .i64 root], .int .i64 p] w fun e w' => e = .returned (.bool true) ∧ Below w.heap.size w w' := by
  have T0 := Aside0.mk (TW.new (c := c) root hr)
  have HC := Aside0.mk hc
  clear hr hc
  have hp0 := F.p0
  have hp1 := F.p1
  have hu30 := Try.underlying30
  have hu24 := Try.underlying24
  go_enter Try.func5, Try.ntmps5
  go_wp2_with fail
  refine (shown_calls _).mono ?_
  rintro e w1 ⟨rfl, hb1⟩
  have T1 := Aside0.mk (T0.out.step hb1)
  have z1 := T1.out.z
  have t10 := T1.out.t0
  have t11 := T1.out.t1
  clear hb1
  go_wp2_with fail
  refine (runnellaw4_small.calls k _ 1 [⟨l, root⟩] true _ ?hn1 (Nat.le_refl _) F.small).mono ?_
  case hn1 => exact nodeC w1 A c l root T1.out.C HC.out
  rintro e w2 ⟨rfl, ⟨n2, rfl⟩⟩
  have T2 := Aside0.mk ((T1.out.alloc (.cells #[.slice A l.length c, .int .i64 root] 30)).drewN n2)
  go_wp2_with fail
  refine (tree_Sound.calls A c l root true _ T2.out.C HC.out F.sound).mono ?_
  rintro e w3 ⟨rfl, hb3⟩
  have T3 := Aside0.mk (T2.out.step hb3)
  have z3 := T3.out.z
  have t30 := T3.out.t0
  have t31 := T3.out.t1
  clear hb3
  go_wp2_with fail
  refine (tree_Sub.calls k A c l root p sn sr _ T3.out.C HC.out F.sub).mono ?_
  rintro e w4 ⟨v4, rfl, hS4, hb4⟩
  obtain ⟨A4, c4, rfl, hl4, hC4⟩ := Kd.S_reads hS4
  have T4 := Aside0.mk (T3.out.step hb4)
  have z4 := T4.out.z
  have t40 := T4.out.t0
  have t41 := T4.out.t1
  have HC4 := Aside0.mk hC4
  have HL4 := Aside0.mk hl4
  clear hb4 hC4 hl4 hS4
  obtain ⟨ad, Ak, ck, e, k0, k1, k2, k3, k4, hlk, hCk⟩ := at_T24 T4.out.C p hp0 hp1
  cases e
  have hbk : (ad.add (p.toNat * 5)).block < w4.heap.size := World.block_lt_of_cell? w4 _ k0
  have HCk := Aside0.mk hCk
  have HLk := Aside0.mk hlk
  clear hCk hlk
  go_wp2_with fail
  obtain ⟨W5, hW5⟩ : ∃ W5, ((w4.alloc (.cells #[.slice A4 sn.length c4, .int .i64 sr] 30)).alloc (.cells #[.int .i64 (rd_T24 l p).f0, .int .i64 (rd_T24 l p).f1, .int .i64 (rd_T24 l p).f2, .string (rd_T24 l p).f3, .slice Ak (rd_T24 l p).f4.length ck] 24)) = W5 := ⟨_, rfl⟩
  have hz5 : W5.heap.size = w4.heap.size + 2 := by rw [← hW5]; simp
  have T5 : TW w W5 (some ad) c l root := by rw [← hW5]; exact (T4.out.alloc _).alloc _
  have s50 : W5.cell? ⟨w4.heap.size, 0, none⟩ = some (.slice A4 sn.length c4) := by rw [← hW5]; exact cell_old (cell_new rfl rfl)
  have s51 : W5.cell? ⟨w4.heap.size, 1, none⟩ = some (.int .i64 sr) := by rw [← hW5]; exact cell_old (cell_new rfl rfl)
  have n50 : W5.cell? ⟨w4.heap.size + 1, 0, none⟩ = some (.int .i64 (rd_T24 l p).f0) := by rw [← hW5]; exact cell_new (by simp) rfl
  have n54 : W5.cell? ⟨w4.heap.size + 1, 4, none⟩ = some (.slice Ak (rd_T24 l p).f4.length ck) := by rw [← hW5]; exact cell_new (by simp) rfl
  have HC45 : Kd.C k24 W5 A4 sn.length sn := by rw [← hW5]; exact Kd.C_alloc (Kd.C_alloc HC4.out _) _
  have HCk5 : Kd.C (Kd.int .i64) W5 Ak (rd_T24 l p).f4.length (rd_T24 l p).f4 := by rw [← hW5]; exact Kd.C_alloc (Kd.C_alloc HCk.out _) _
  rw [hW5]
  have HK5 := Lib.hid (show ∀ W', Aside0 (Below W5.heap.size W5 W') → W'.cell? ⟨w.heap.size, 0, none⟩ = some (.slice (some ad) l.length c) ∧ W'.cell? ⟨w.heap.size, 1, none⟩ = some (.int .i64 root) ∧ W'.cell? ⟨w4.heap.size, 0, none⟩ = some (.slice A4 sn.length c4) ∧ W'.cell? ⟨w4.heap.size, 1, none⟩ = some (.int .i64 sr) ∧
      W'.cell? ⟨w4.heap.size + 1, 4, none⟩ = some (.slice Ak (rd_T24 l p).f4.length ck) from fun W' hb =>
    ⟨pw_cell_below hb.out T5.t0, pw_cell_below hb.out T5.t1, pw_cell_below hb.out s50, pw_cell_below hb.out s51, pw_cell_below hb.out n54⟩)
  have hbk : (rd_T24 l p).f4.length ≤ 9223372036854775807 := HCk5.2.1
  have HCK5 := Aside0.mk HCk5
  have HC45 := Aside0.mk HC45
  have HT5 := Aside0.mk T5
  have HW5 := Lib.hid hW5
  have HZ5 := Lib.hid hz5
  have HN50 := Lib.hid n50
  clear T5 s50 s51 n50 n54 hW5 hz5 k0 k1 k2 k3 k4 t10 t11 t30 t31 t40 t41
  go_loopw [9] (fun v9 wr => ∃ i : Nat, i ≤ (rd_T24 l p).f4.length ∧ v9 = .int .i64 (i : Int) ∧ Aside0 (Below W5.heap.size W5 wr)) (fun v9 _ => (rd_T24 l p).f4.length - (intOf v9).toNat)
  case atStart => exact ⟨0, Nat.zero_le _, rfl, ⟨Below.refl _ _⟩⟩
  case round =>
    obtain ⟨i, hi, rfl, HB⟩ := hrel
    obtain ⟨r0, r1, r2, r3, r4⟩ := HK5.out wr HB
    by_cases hlt : i < (rd_T24 l p).f4.length
    · obtain ⟨kn, kr, dk, f1, f2, f3⟩ := F.kids i hlt
      obtain ⟨adk, ek, hcell⟩ := Kd.at_int HCK5.out (i : Int) (by omega) (by omega)
      rw [rdN _ i hlt, Int.toNat_natCast] at hcell
      subst ek
      have r5 : wr.cell? (adk.add i) = some (.int .i64 (rd_T24 l p).f4[i]) := pw_cell_below HB.out hcell
      have KS := Lib.hid (show ∀ W', Aside0 (Below wr.heap.size wr W') → W'.cell? ⟨w.heap.size, 0, none⟩ = some (.slice (some ad) l.length c) ∧ W'.cell? ⟨w.heap.size, 1, none⟩ = some (.int .i64 root) ∧ W'.cell? ⟨w4.heap.size, 0, none⟩ = some (.slice A4 sn.length c4) ∧ W'.cell? ⟨w4.heap.size, 1, none⟩ = some (.int .i64 sr) ∧
        W'.cell? ⟨w4.heap.size + 1, 4, none⟩ = some (.slice (some adk) (rd_T24 l p).f4.length ck) ∧ W'.cell? (adk.add i) = some (.int .i64 (rd_T24 l p).f4[i]) ∧ Aside0 (Below wr.heap.size wr W') from fun W' hb =>
        ⟨pw_cell_below hb.out r0, pw_cell_below hb.out r1, pw_cell_below hb.out r2, pw_cell_below hb.out r3, pw_cell_below hb.out r4, pw_cell_below hb.out r5, hb⟩)
      have TR := Aside0.mk (HT5.out.step HB.out)
      have CS := Aside0.mk (Kd.C_below HC45.out HB.out)
      have K16 := Lib.hid (show ∀ W', Aside0 (Below wr.heap.size wr W') → Calls Try.prog 16 #[.agg #[.slice (some ad) l.length c, .int .i64 root], .int .i64 (rd_T24 l p).f4[i]] W' fun e w' => ∃ (Ax : Option Addr) (cx : Nat), e = .returned (.agg #[.slice Ax kn.length cx, .int .i64 kr]) ∧ Aside0 (kn.length ≤ cx ∧ Kd.C k24 w' Ax kn.length kn) ∧ Aside0 (Below W'.heap.size W' w') from fun W' hb =>
        (tree_Sub.calls k (some ad) c l root _ kn kr W' (Kd.C_below TR.out.C hb.out) HC.out f1).mono fun e w' ⟨v, he, hS, hb'⟩ => by
          obtain ⟨Ax, cx, rfl, hl, hC⟩ := Kd.S_reads hS
          exact ⟨Ax, cx, he, ⟨hl, hC⟩, ⟨hb'⟩⟩)
      have K17s := Lib.hid (show ∀ W', Aside0 (Below wr.heap.size wr W') → Calls Try.prog 17 #[.agg #[.slice A4 sn.length c4, .int .i64 sr]] W' fun e w' => e = .returned (.int .i64 ds) ∧ Aside0 (Below W'.heap.size W' w') from fun W' hb =>
        (tree_Depth.calls k A4 c4 sn sr ds W' (Kd.C_below CS.out hb.out) HL4.out F.depS).mono fun e w' ⟨he, hb'⟩ => ⟨he, ⟨hb'⟩⟩)
      have K17k := Lib.hid (show ∀ W' Ax cx, Aside0 (kn.length ≤ cx ∧ Kd.C k24 W' Ax kn.length kn) → Calls Try.prog 17 #[.agg #[.slice Ax kn.length cx, .int .i64 kr]] W' fun e w' => e = .returned (.int .i64 dk) ∧ Aside0 (Below W'.heap.size W' w') from fun W' Ax cx hC =>
        (tree_Depth.calls k Ax cx kn kr dk W' hC.out.2 hC.out.1 f2).mono fun e w' ⟨he, hb'⟩ => ⟨he, ⟨hb'⟩⟩)
      have stepB := Lib.hid (show ∀ (X Y Z : World), Aside0 (Below X.heap.size X Y) → Aside0 (Below Y.heap.size Y Z) → Aside0 (Below X.heap.size X Z) from fun X Y Z h k => ⟨h.out.trans (k.out.mono h.out.size)⟩)
      have hcmp : decide (ds ≤ dk) = false := by simp; omega
      have HD0 := Aside0.mk (show Below wr.heap.size wr wr.drew from below_drew (Below.refl _ _))
      clear f1 f2 f3 hcell HT5 HC45
      go_wp2_with fail
      go_region_held3 (fun W' => W'.cell? ⟨w.heap.size, 0, none⟩ = some (.slice (some ad) l.length c) ∧ W'.cell? ⟨w.heap.size, 1, none⟩ = some (.int .i64 root) ∧ W'.cell? ⟨w4.heap.size, 0, none⟩ = some (.slice A4 sn.length c4) ∧ W'.cell? ⟨w4.heap.size, 1, none⟩ = some (.int .i64 sr) ∧
        W'.cell? ⟨w4.heap.size + 1, 4, none⟩ = some (.slice (some adk) (rd_T24 l p).f4.length ck) ∧ W'.cell? (adk.add i) = some (.int .i64 (rd_T24 l p).f4[i]) ∧ Aside0 (Below wr.heap.size wr W'))
        (first | exact KS.out _ HD0 | (go_split_ands; exact KS.out _ (stepB.out _ _ _ (by assumption) hb9)))
        (first
          | (go_at_call 16; go_split_ands; (with_reducible refine (K16.out _ (by assumption)).mono ?_); rintro e w9 ⟨Ax, cx, rfl, hx9, hb9⟩)
          | (go_at_call 17; go_split_ands; (with_reducible refine (K17k.out _ _ _ (by assumption)).mono ?_); rintro e w9 ⟨rfl, hb9⟩)
          | (go_at_call 17; go_split_ands; (with_reducible refine (K17s.out _ (by assumption)).mono ?_); rintro e w9 ⟨rfl, hb9⟩))
      go_wp2
      go_split_ands
      exact ⟨⟨i + 1, by omega, by go_num, stepB.out _ _ _ HB (by assumption)⟩, by simp [intOf]; omega⟩
    · have hie : i = (rd_T24 l p).f4.length := by omega
      subst hie
      have hr0 := F.r0
      have hr1 := F.r1
      obtain ⟨ads, As, cks, es, q0, _, _, _, _, _, _⟩ := at_T24 (Kd.C_below HC45.out HB.out) sr hr0 hr1
      cases es
      have TR := Aside0.mk (HT5.out.step HB.out)
      have CS := Aside0.mk (Kd.C_below HC45.out HB.out)
      have n0 : wr.cell? ⟨w4.heap.size + 1, 0, none⟩ = some (.int .i64 (rd_T24 l p).f0) := pw_cell_below HB.out HN50.out
      have KS := Lib.hid (show ∀ W', Aside0 (Below wr.heap.size wr W') → W'.cell? ⟨w.heap.size, 0, none⟩ = some (.slice (some ad) l.length c) ∧ W'.cell? ⟨w.heap.size, 1, none⟩ = some (.int .i64 root) ∧ W'.cell? ⟨w4.heap.size, 0, none⟩ = some (.slice (some ads) sn.length c4) ∧ W'.cell? ⟨w4.heap.size, 1, none⟩ = some (.int .i64 sr) ∧
        W'.cell? ⟨w4.heap.size + 1, 0, none⟩ = some (.int .i64 (rd_T24 l p).f0) ∧ W'.cell? ⟨w4.heap.size + 1, 4, none⟩ = some (.slice Ak (rd_T24 l p).f4.length ck) ∧ W'.cell? (ads.add (sr.toNat * 5)) = some (.int .i64 (rd_T24 sn sr).f0) ∧ Aside0 (Below wr.heap.size wr W') from fun W' hb =>
        ⟨pw_cell_below hb.out r0, pw_cell_below hb.out r1, pw_cell_below hb.out r2, pw_cell_below hb.out r3, pw_cell_below hb.out n0, pw_cell_below hb.out r4, pw_cell_below hb.out q0, hb⟩)
      have K15 := Lib.hid (show ∀ W', Aside0 (Below wr.heap.size wr W') → Calls Try.prog 15 #[.agg #[.slice (some ads) sn.length c4, .int .i64 sr]] W' fun e w' => e = .returned (.bool true) ∧ Aside0 (Below W'.heap.size W' w') from fun W' hb =>
        (tree_Sound.calls (some ads) c4 sn sr true W' (Kd.C_below CS.out hb.out) HL4.out F.soundS).mono fun e w' ⟨he, hb'⟩ => ⟨he, ⟨hb'⟩⟩)
      have K17s := Lib.hid (show ∀ W', Aside0 (Below wr.heap.size wr W') → Calls Try.prog 17 #[.agg #[.slice (some ads) sn.length c4, .int .i64 sr]] W' fun e w' => e = .returned (.int .i64 ds) ∧ Aside0 (Below W'.heap.size W' w') from fun W' hb =>
        (tree_Depth.calls k (some ads) c4 sn sr ds W' (Kd.C_below CS.out hb.out) HL4.out F.depS).mono fun e w' ⟨he, hb'⟩ => ⟨he, ⟨hb'⟩⟩)
      have K17t := Lib.hid (show ∀ W', Aside0 (Below wr.heap.size wr W') → Calls Try.prog 17 #[.agg #[.slice (some ad) l.length c, .int .i64 root]] W' fun e w' => e = .returned (.int .i64 dt) ∧ Aside0 (Below W'.heap.size W' w') from fun W' hb =>
        (tree_Depth.calls k (some ad) c l root dt W' (Kd.C_below TR.out.C hb.out) HC.out F.depT).mono fun e w' ⟨he, hb'⟩ => ⟨he, ⟨hb'⟩⟩)
      have stepB := Lib.hid (show ∀ (X Y Z : World), Aside0 (Below X.heap.size X Y) → Aside0 (Below Y.heap.size Y Z) → Aside0 (Below X.heap.size X Z) from fun X Y Z h k => ⟨h.out.trans (k.out.mono h.out.size)⟩)
      have HD0 := Aside0.mk (show Below wr.heap.size wr wr.drew from below_drew (Below.refl _ _))
      have g1 : decide (ds ≤ dt) = true := by have := F.le; simp; omega
      have g2 : decide (sn.length ≤ l.length) = true := by have := F.len; simp; omega
      have g3 : ((rd_T24 sn sr).f0 == (rd_T24 l p).f0) = true := by rw [beq_iff_eq]; exact F.kind
      have HONE := Lib.hid F.one
      clear n0 q0
      go_wp2_with fail
      go_region_held3 (fun W' => W'.cell? ⟨w.heap.size, 0, none⟩ = some (.slice (some ad) l.length c) ∧ W'.cell? ⟨w.heap.size, 1, none⟩ = some (.int .i64 root) ∧ W'.cell? ⟨w4.heap.size, 0, none⟩ = some (.slice (some ads) sn.length c4) ∧ W'.cell? ⟨w4.heap.size, 1, none⟩ = some (.int .i64 sr) ∧
        W'.cell? ⟨w4.heap.size + 1, 0, none⟩ = some (.int .i64 (rd_T24 l p).f0) ∧ W'.cell? ⟨w4.heap.size + 1, 4, none⟩ = some (.slice Ak (rd_T24 l p).f4.length ck) ∧ W'.cell? (ads.add (sr.toNat * 5)) = some (.int .i64 (rd_T24 sn sr).f0) ∧ Aside0 (Below wr.heap.size wr W'))
        (first | exact KS.out _ HD0 | (go_split_ands; exact KS.out _ (stepB.out _ _ _ (by assumption) hb9)))
        (first
          | (go_at_call 15; go_split_ands; (with_reducible refine (K15.out _ (by assumption)).mono ?_); rintro e w9 ⟨rfl, hb9⟩)
          | (go_at_call 17; go_split_ands; (with_reducible refine (K17s.out _ (by assumption)).mono ?_); rintro e w9 ⟨rfl, hb9⟩)
          | (go_at_call 17; go_split_ands; (with_reducible refine (K17t.out _ (by assumption)).mono ?_); rintro e w9 ⟨rfl, hb9⟩))
      go_wp2
      go_ret
      go_split_ands
      refine ⟨?_, (belT ⟨TR.out.below⟩ (by assumption)).out⟩
      show Ending.returned (.bool ((ds == 1) == (((rd_T24 l p).f4.length : Int) == 0))) = _
      rw [HONE.out, cast0]
      simp
end Go.Proofs.Ytpggidmpkhmijaa.P
