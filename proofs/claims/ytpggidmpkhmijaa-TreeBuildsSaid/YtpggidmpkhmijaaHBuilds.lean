/- TreeBuilds: the walk of the law. -/
import Derived.Test.YtpggidmpkhmijaaTL
import Derived.Test.YtpggidmpkhmijaaPf12
import Derived.Test.YtpggidmpkhmijaaPf10
import Derived.Deep.DeepCutAuto
namespace Go.Proofs.Ytpggidmpkhmijaa.P
open Go.RowKit Go.Proofs.YtpggidmpkhmijaaW.PrintWords Go.Proofs.YtpggidmpkhmijaaW.PrintLast Go.Proofs.YtpggidmpkhmijaaW.PrintMore
attribute [local go_sem] max2_int min2_int max_two min_two max_three min_three max_four min_four
set_option linter.unusedVariables false
set_option linter.unusedSimpArgs false
structure BArgs where
  A : Option Addr
  c : Nat
  l : List S24
  root : Int
  n : S24
  An : Option Addr
  cn : Nat
  Ak : Option Addr
  ck : Nat
  kids : List S30
def BArgs.vals (b : BArgs) : Array Value := #[.agg #[.slice b.A b.l.length b.c, .int .i64 b.root], .agg #[.int .i64 b.n.f0, .int .i64 b.n.f1, .int .i64 b.n.f2, .string b.n.f3, .slice b.An b.n.f4.length b.cn], .slice b.Ak b.kids.length b.ck]
structure BReads (w : World) (b : BArgs) : Prop where
  l : Kd.C k24 w b.A b.l.length b.l
  lc : b.l.length ≤ b.c
  n : Kd.C (Kd.int .i64) w b.An b.n.f4.length b.n.f4
  nc : b.n.f4.length ≤ b.cn
  kids : Kd.C k30 w b.Ak b.kids.length b.kids
  kidsc : b.kids.length ≤ b.ck


/-- The law's own copies of the tree and of the node lie where they lay. -/
structure BW (w W : World) (b : BArgs) : Prop where
  z : w.heap.size + 1 < W.heap.size
  t0 : W.cell? ⟨w.heap.size, 0, none⟩ = some (.slice b.A b.l.length b.c)
  t1 : W.cell? ⟨w.heap.size, 1, none⟩ = some (.int .i64 b.root)
  n0 : W.cell? ⟨w.heap.size + 1, 0, none⟩ = some (.int .i64 b.n.f0)
  n1 : W.cell? ⟨w.heap.size + 1, 1, none⟩ = some (.int .i64 b.n.f1)
  n2 : W.cell? ⟨w.heap.size + 1, 2, none⟩ = some (.int .i64 b.n.f2)
  n3 : W.cell? ⟨w.heap.size + 1, 3, none⟩ = some (.string b.n.f3)
  n4 : W.cell? ⟨w.heap.size + 1, 4, none⟩ = some (.slice b.An b.n.f4.length b.cn)
  below : Below w.heap.size w W
theorem BW.new (w : World) (b : BArgs) : BW w ((w.alloc (.cells #[.slice b.A b.l.length b.c, .int .i64 b.root] 30)).alloc (.cells #[.int .i64 b.n.f0, .int .i64 b.n.f1, .int .i64 b.n.f2, .string b.n.f3, .slice b.An b.n.f4.length b.cn] 24)) b :=
  ⟨by simp, cell_old (cell_new rfl rfl), cell_old (cell_new rfl rfl), cell_new (by simp) rfl, cell_new (by simp) rfl, cell_new (by simp) rfl, cell_new (by simp) rfl, cell_new (by simp) rfl, ((Below.refl _ _).alloc (Nat.le_refl _) _).alloc (by simp) _⟩
theorem BW.step {w W W' : World} {b : BArgs} (h : BW w W b) (hb : Below W.heap.size W W') : BW w W' b :=
  ⟨Nat.lt_of_lt_of_le h.z hb.size, pw_cell_below hb h.t0, pw_cell_below hb h.t1, pw_cell_below hb h.n0, pw_cell_below hb h.n1, pw_cell_below hb h.n2, pw_cell_below hb h.n3, pw_cell_below hb h.n4, h.below.trans (hb.mono h.below.size)⟩
theorem BW.alloc {w W : World} {b : BArgs} (h : BW w W b) (o : Obj) : BW w (W.alloc o) b := h.step ((Below.refl _ _).alloc (Nat.le_refl _) _)
theorem BW.drewN {w W : World} {b : BArgs} (h : BW w W b) (n : Nat) : BW w (W.drewN n) b := h.step (pw_below_drewN (Below.refl _ _) _)

set_option maxRecDepth 100000 in
set_option maxHeartbeats 4000000 in
theorem TreeBuilds_out (b : BArgs) (k : Nat) (b1 b2 : Bool) (w : World) (R : BReads w b) (hs1 : runnellaw4_small.f k [⟨b.l, b.root⟩] = some b1) (hs2 : runnellaw4_small.f k b.kids = some b2) (hb : b1 = false ∨ b2 = false ∨ (b.n.f3.size : Int) > 200) :
    Calls Try.prog 4 b.vals w fun e w' => e = .returned (.bool true) ∧ Below w.heap.size w w' := by
  unfold BArgs.vals
  have hu30 := Try.underlying30
  have hu24 := Try.underlying24
  have HS1 := Lib.hid hs1
  have HS2 := Lib.hid hs2
  have HBB := Lib.hid hb
  clear hs1 hs2 hb
  have T0 := Aside0.mk (BW.new w b)
  go_enter Try.func4, Try.ntmps4
  go_wp2_with fail
  refine (shown_calls _).mono ?_
  rintro e w1 ⟨rfl, hb1⟩
  have T1 := Aside0.mk (T0.out.step hb1)
  have z1 := T1.out.z
  have t10 := T1.out.t0
  have t11 := T1.out.t1
  have t13 := T1.out.n3
  clear hb1
  go_wp2_with fail
  refine (runnellaw4_small.calls k _ 1 [⟨b.l, b.root⟩] b1 _ ?hn1 (Nat.le_refl _) HS1.out).mono ?_
  case hn1 => exact nodeC w1 b.A b.c b.l b.root (Kd.C_below R.l T1.out.below) R.lc
  rintro e w2 ⟨rfl, ⟨n2, rfl⟩⟩
  have T2 := Aside0.mk ((T1.out.alloc (.cells #[.slice b.A b.l.length b.c, .int .i64 b.root] 30)).drewN n2)
  go_wp2_with fail
  refine (runnellaw4_small.calls k b.Ak b.ck b.kids b2 _ (Kd.C_below R.kids T2.out.below) R.kidsc HS2.out).mono ?_
  rintro e w3 ⟨rfl, hd3⟩
  have T3 := Aside0.mk (T2.out.step hd3.below)
  have t33 := T3.out.n3
  clear hd3
  cases b1 with
  | false =>
    go_wp2
    go_ret
    exact ⟨rfl, T3.out.below⟩
  | true =>
    cases b2 with
    | false =>
      go_wp2
      go_ret
      exact ⟨rfl, T3.out.below⟩
    | true =>
      have hlt : decide ((b.n.f3.size : Int) > 200) = true := by simpa using HBB.out
      have hlt2 : decide (200 < b.n.f3.size) = true := by simp at hlt ⊢; omega
      go_wp2
      go_ret
      exact ⟨rfl, T3.out.below⟩

/-! ### what the law asks of trees that can be gone through -/
def deepF (f : S30 → Bool) (dep : S30 → Int) : List S30 → Int → Int
  | [], d => d
  | t :: ts, d => deepF f dep ts (if f t then mx d (dep t) else d)
def manyF (f : S30 → Bool) : List S30 → Int → Int
  | [], m => m
  | t :: ts, m => manyF f ts (if f t then m + t.f0.length else m)
structure BFacts (k : Nat) (b : BArgs) (sb : Bool) (subs : List S30) (dt : Int) (on : List S24) (orr : Int) (f : S30 → Bool) (dep : S30 → Int) (o2 : List S24) (r2 d2 : Int) : Prop where
  s1 : runnellaw4_small.f k [⟨b.l, b.root⟩] = some true
  s2 : runnellaw4_small.f k b.kids = some true
  txt : b.n.f3.size ≤ 200
  sound : tree_Sound.f b.l b.root = some sb
  r0 : sb = true → 0 ≤ b.root
  r1 : sb = true → b.root < (b.l.length : Int)
  kb : sb = true → (rd_T24 b.l b.root).f4.length ≤ 1000
  slen : sb = true → subs.length = (rd_T24 b.l b.root).f4.length
  sub : sb = true → ∀ (j : Nat) (h : j < subs.length) (h' : j < (rd_T24 b.l b.root).f4.length), tree_Sub.f k b.l b.root (rd_T24 b.l b.root).f4[j] = some (subs[j].f0, subs[j].f1) ∧ tree_Sound.f subs[j].f0 subs[j].f1 = some true ∧ ∃ dk, tree_Depth.f k subs[j].f0 subs[j].f1 = some dk ∧ dk < dt
  depT : sb = true → tree_Depth.f k b.l b.root = some dt
  over : sb = true → tree_Over.f k (rd_T24 b.l b.root).f0 (rd_T24 b.l b.root).f1 (rd_T24 b.l b.root).f2 (rd_T24 b.l b.root).f3 (rd_T24 b.l b.root).f4 subs = some (on, orr)
  like : sb = true → runnellaw4_like.f k on orr b.l b.root = some true
  kl : b.kids.length ≤ 30
  kn : ∀ t ∈ b.kids, t.f0.length ≤ 200
  snd : ∀ t ∈ b.kids, tree_Sound.f t.f0 t.f1 = some (f t)
  dps : ∀ t ∈ b.kids, f t = true → tree_Depth.f k t.f0 t.f1 = some (dep t)
  over2 : tree_Over.f k b.n.f0 b.n.f1 b.n.f2 b.n.f3 b.n.f4 (b.kids.filter f) = some (o2, r2)
  len2 : (o2.length : Int) = manyF f b.kids 1
  snd2 : tree_Sound.f o2 r2 = some (decide (manyF f b.kids 1 ≤ 4000))
  dep2 : tree_Depth.f k o2 r2 = some d2
  or2 : manyF f b.kids 1 > 4000 ∨ d2 = deepF f dep b.kids 0 + 1
  dd : 0 ≤ deepF f dep b.kids 0 ∧ deepF f dep b.kids 0 ≤ 100000
def Stp (p : Prop) : Prop := p
theorem Stp.out {p : Prop} (h : Stp p) : p := h
theorem S_far2 {W W' : World} {N g : Nat} {v : Value} {xs : List S24} (h : Kd.S k24 24 W N (fun _ => True) v xs) (hg : g < N ∨ W.heap.size ≤ g) (hW : ∀ k, k < W.heap.size → k ≠ g → W'.heap[k]? = W.heap[k]?) : Kd.S k24 24 W' N (fun _ => True) v xs :=
  Kd.S_mono (Kd.S_step (Kd.S_bound h) (fun k hk hlt => hW k hlt (by have := hk.2.1; omega))) (fun _ _ => trivial)
theorem belA {X Y : World} (o : Obj) (h : Aside0 (Below X.heap.size X Y)) : Aside0 (Below X.heap.size X (Y.alloc o)) := ⟨h.out.alloc h.out.size _⟩
theorem belD {X Y : World} (h : Aside0 (Below X.heap.size X Y)) : Aside0 (Below X.heap.size X Y.drew) := ⟨below_drew h.out⟩
theorem belS {X Y : World} {g o : Nat} {v : Value} (hg : X.heap.size ≤ g) (h : Aside0 (Below X.heap.size X Y)) : Aside0 (Below X.heap.size X (Y.setCell ⟨g, o, none⟩ v)) := ⟨h.out.setCell (p := ⟨g, o, none⟩) hg v⟩

/-- A tree that was made in a round, in a variable of that round. -/
structure KW (wr W' : World) (g : Nat) (Ax : Option Addr) (cx : Nat) (t : S30) : Prop where
  below : Below wr.heap.size wr W'
  c0 : W'.cell? ⟨g, 0, none⟩ = some (.slice Ax t.f0.length cx)
  c1 : W'.cell? ⟨g, 1, none⟩ = some (.int .i64 t.f1)
  s : Kd.S k24 24 W' wr.heap.size (fun _ => True) (.slice Ax t.f0.length cx) t.f0
theorem KW.step {wr W' X : World} {g : Nat} {Ax : Option Addr} {cx : Nat} {t : S30} (h : KW wr W' g Ax cx t) (hb : Below W'.heap.size W' X) : KW wr X g Ax cx t :=
  ⟨h.below.trans (hb.mono h.below.size), pw_cell_below hb h.c0, pw_cell_below hb h.c1, Kd.S_mono (Kd.S_step (Kd.S_bound h.s) (fun k hk hlt => hb.block k hlt)) (fun _ _ => trivial)⟩
theorem KW.one {wr Y w9 : World} {Ax : Option Addr} {cx : Nat} {t : S30} (hY : Below wr.heap.size wr Y) (hb : Below Y.heap.size Y w9) (h : Kd.S k24 24 w9 Y.heap.size (fun _ => True) (.slice Ax t.f0.length cx) t.f0) :
    KW wr (w9.alloc (.cells #[.slice Ax t.f0.length cx, .int .i64 t.f1] 30)) w9.heap.size Ax cx t :=
  ⟨(hY.trans (hb.mono hY.size)).alloc (Nat.le_trans hY.size hb.size) _, cell_new rfl rfl, cell_new rfl rfl, Kd.S_mono (Kd.S_step (Kd.S_bound (Kd.S_lower h hY.size)) (fun k hk hlt => Below.heap_alloc w9 _ k hlt)) (fun _ _ => trivial)⟩
theorem zero_block {wr Y w9 : World} {u v : Value} (hY : Y = (wr.alloc (.cells #[u, v] 30)).drew) (hb : Below Y.heap.size Y w9) : w9.heap[wr.heap.size]? = some (.cells #[u, v] 30 (0, 0)) := by
  subst hY
  rw [hb.block _ (by simp [World.drew])]
  exact blk_drew (heap_alloc_new wr _)
theorem KW.two {wr Y w9 : World} {Ax : Option Addr} {cx : Nat} {t : S30} {u v : Value} (hY : Y = (wr.alloc (.cells #[u, v] 30)).drew) (hb : Below Y.heap.size Y w9) (h : Kd.S k24 24 w9 Y.heap.size (fun _ => True) (.slice Ax t.f0.length cx) t.f0) :
    KW wr ((w9.setCell ⟨wr.heap.size, 0, none⟩ (.slice Ax t.f0.length cx)).setCell ⟨wr.heap.size, 1, none⟩ (.int .i64 t.f1)) wr.heap.size Ax cx t := by
  have hz := zero_block hY hb
  have hB : Below wr.heap.size wr Y := by rw [hY]; exact below_drew ((Below.refl _ _).alloc (Nat.le_refl _) _)
  have hs : Y.heap.size = wr.heap.size + 1 := by rw [hY]; simp [World.drew]
  have e1 : ((w9.setCell ⟨wr.heap.size, 0, none⟩ (.slice Ax t.f0.length cx)).setCell ⟨wr.heap.size, 1, none⟩ (.int .i64 t.f1)).heap[wr.heap.size]? = some (.cells #[.slice Ax t.f0.length cx, .int .i64 t.f1] 30 (0, 0)) :=
    blk_put (blk_put hz 0 _ rfl) 1 _ rfl
  refine ⟨((hB.trans (hb.mono hB.size)).setCell (p := ⟨wr.heap.size, 0, none⟩) (Nat.le_refl _) _).setCell (p := ⟨wr.heap.size, 1, none⟩) (Nat.le_refl _) _, (blk_cell e1 0).trans rfl, (blk_cell e1 1).trans rfl, ?_⟩
  refine Kd.S_mono (Kd.S_step (Kd.S_lower (Kd.S_bound h) (by omega : wr.heap.size ≤ Y.heap.size)) (fun k hk hlt => ?_)) (fun _ _ => trivial)
  have hne : k ≠ wr.heap.size := by have := hk.2.1; omega
  rw [Below.heap_setCell _ _ _ k hne, Below.heap_setCell _ _ _ k hne]

set_option maxRecDepth 100000 in
set_option maxHeartbeats 2000000 in
theorem TreeBuilds_in (b : BArgs) (k : Nat) (sb : Bool) (subs : List S30) (dt : Int) (on : List S24) (orr : Int) (f : S30 → Bool) (dep : S30 → Int) (o2 : List S24) (r2 d2 : Int) (w : World) (R : BReads w b) (F : BFacts k b sb subs dt on orr f dep o2 r2 d2) :
    Calls Try.prog 4 b.vals w fun e w' => e = .returned (.bool true) ∧ Below w.heap.size w w' := by
  unfold BArgs.vals
  have hu30 := Try.underlying30
  have hu24 := Try.underlying24
  have T0 := Aside0.mk (BW.new w b)
  have htx := F.txt
  go_enter Try.func4, Try.ntmps4
  go_wp2_with fail
  refine (shown_calls _).mono ?_
  rintro e w1 ⟨rfl, hb1⟩
  have T1 := Aside0.mk (T0.out.step hb1)
  have z1 := T1.out.z
  have t10 := T1.out.t0
  have t11 := T1.out.t1
  have t13 := T1.out.n3
  clear hb1
  go_wp2_with fail
  refine (runnellaw4_small.calls k _ 1 [⟨b.l, b.root⟩] true _ ?hn1 (Nat.le_refl _) F.s1).mono ?_
  case hn1 => exact nodeC w1 b.A b.c b.l b.root (Kd.C_below R.l T1.out.below) R.lc
  rintro e w2 ⟨rfl, ⟨n2, rfl⟩⟩
  have T2 := Aside0.mk ((T1.out.alloc (.cells #[.slice b.A b.l.length b.c, .int .i64 b.root] 30)).drewN n2)
  go_wp2_with fail
  refine (runnellaw4_small.calls k b.Ak b.ck b.kids true _ (Kd.C_below R.kids T2.out.below) R.kidsc F.s2).mono ?_
  rintro e w3 ⟨rfl, hd3⟩
  have T3 := Aside0.mk (T2.out.step hd3.below)
  have z3 := T3.out.z
  have t30 := T3.out.t0
  have t31 := T3.out.t1
  have t33 := T3.out.n3
  clear hd3 t10 t11 t13
  go_upto_if 43 with (go_at_call 15; refine (tree_Sound.calls b.A b.c b.l b.root sb _ (Kd.C_below R.l T3.out.below) R.lc F.sound).mono ?_; rintro e w4 ⟨rfl, hb4⟩; have T4 := Aside0.mk (T3.out.step hb4))
  have T4' := T4
  go_cut [] (fun wc => Aside0 (BW w wc b))
  case rest =>
    have TC := hcut
    clear T4' T4 hb4 t30 t31 t33 z3 z1
    have zc := TC.out.z
    go_wp2_with fail
    have hkl := F.kl
    go_loopw [14, 15, 16, 17] (fun v14 v15 v16 v17 wr => ∃ (i : Nat) (gs : List S30) (d m : Int), i ≤ b.kids.length ∧ v15 = .int .i64 d ∧ v16 = .int .i64 m ∧ v17 = .int .i64 (i : Int) ∧ 1 ≤ m ∧ m ≤ 1 + 200 * (i : Int) ∧ gs.length ≤ i ∧
      Aside0 (TL wc wr v14 gs ∧ gs ++ (b.kids.drop i).filter f = b.kids.filter f ∧ deepF f dep (b.kids.drop i) d = deepF f dep b.kids 0 ∧ manyF f (b.kids.drop i) m = manyF f b.kids 1)) (fun _ _ _ v17 _ => b.kids.length - (intOf v17).toNat)
    case atStart => exact ⟨0, [], 0, 1, Nat.zero_le _, rfl, rfl, rfl, by omega, by omega, Nat.le_refl _, ⟨TL.nil (Below.refl _ _), by simp, by simp, by simp⟩⟩
    case round =>
      obtain ⟨i, gs, d, m, hi, rfl, rfl, rfl, hm0, hm1, hgl, HI⟩ := hrel
      have hbk : b.kids.length ≤ 9223372036854775807 := by omega
      by_cases hlt : i < b.kids.length
      · have HD := Lib.hid (List.drop_eq_getElem_cons hlt)
        have hmem : b.kids[i] ∈ b.kids := List.getElem_mem hlt
        have TR := Aside0.mk (TC.out.step HI.out.1.below)
        obtain ⟨ad, A0, c0, e, q0, q1, ql, qC⟩ := at_T30 R.kids (i : Int) (by omega) (by omega)
        rw [rdT30 _ i hlt, Int.toNat_natCast] at q0 q1
        rw [rdT30 _ i hlt] at ql qC
        have hk0 := pw_cell_below TR.out.below q0
        have hk1 := pw_cell_below TR.out.below q1
        have Q0 := Aside0.mk q0
        have Q1 := Aside0.mk q1
        have QL := Aside0.mk ql
        have QC := Aside0.mk qC
        have hAk : b.Ak = some ad := e
        have hkn := F.kn _ hmem
        clear q0 q1 ql qC e
        rw [hAk]
        have HAk := Lib.hid hAk
        clear hAk
        cases hf : f b.kids[i] with
        | false =>
          have HF := Lib.hid hf
          have HSN := Lib.hid (F.snd _ hmem)
          clear hf
          go_wp2_with (go_at_call 15; refine (tree_Sound.calls A0 c0 b.kids[i].f0 b.kids[i].f1 false _ (Kd.C_below QC.out TR.out.below) QL.out (by rw [HSN.out, HF.out])).mono ?_; rintro e w5 ⟨rfl, hb5⟩)
          go_roundw
          case rel =>
            refine ⟨i + 1, gs, d, m, by omega, rfl, rfl, by go_num, by omega, by omega, by omega, ⟨HI.out.1.step hb5, ?_, ?_, ?_⟩⟩
            · have := HI.out.2.1; rw [HD.out, List.filter_cons_of_neg (by simp [HF.out])] at this; exact this
            · have := HI.out.2.2.1; rw [HD.out, deepF, HF.out] at this; simpa using this
            · have := HI.out.2.2.2; rw [HD.out, manyF, HF.out] at this; simpa using this
          case measure => simp [intOf]; omega
        | true =>
          have HF := Lib.hid hf
          have HSN := Lib.hid (F.snd _ hmem)
          have HDP := Lib.hid (F.dps _ hmem hf)
          clear hf
          obtain ⟨i0, hi0, hz0, hz1, hz2⟩ := info_parts info30
          obtain ⟨cs, hown, hcs⟩ := HI.out.1.cells
          have hown' := hown
          clear hcs hown'
          go_wp2_with (first
            | (go_at_call 15; refine (tree_Sound.calls A0 c0 b.kids[i].f0 b.kids[i].f1 true _ (Kd.C_below QC.out TR.out.below) QL.out (by rw [HSN.out, HF.out])).mono ?_; rintro e w5 ⟨rfl, hb5⟩; have TL5 := Aside0.mk (HI.out.1.step hb5); have TR5 := Aside0.mk (TR.out.step hb5); have hk50 := pw_cell_below hb5 hk0; have hk51 := pw_cell_below hb5 hk1; clear hb5; obtain ⟨cs5, hown5, hcs5⟩ := TL5.out.cells; have HCS5 := Aside0.mk hcs5; clear hcs5)
            | ((with_reducible refine gate_builtin (b := .append) (xs := #[.tmp 95, .tmp 100]) rfl ?_); at_builtin; refine Stp.out ?_))
          unfold Stp
          have hb6 := TL5.out.below
          refine wpList_append_own_at _ rfl _ _ 25 rfl wc.heap.size 30 i0 _ 2 32 Try.underlying25 hi0 hz0 hz1 hz2 rfl (by decide) _ gs.length cs5 rfl (own_move hown5 (fun k hk => Below.heap_alloc w5 _ k (hown5.lt k hk).2)) ⟨w5.heap.size, 0, none⟩ 1 1 [.slice A0 b.kids[i].f0.length c0, .int .i64 b.kids[i].f1] rfl rfl (World.news_of_block (cs := #[.slice A0 b.kids[i].f0.length c0, .int .i64 b.kids[i].f1]) (t := 30) (fr := (0, 0)) (heap_alloc_new w5 _)) (by simp [Value.oneCell']) (by simp only [maxLen]; omega) (by omega) (by have := TL5.out.below.size; simp; omega) ?_
          intro v6 w6 hown6 hg6 _ hat6
          have TL6 := Aside0.mk (TL.append (t := b.kids[i]) TL5.out.below hown5 HCS5.out QL.out (FC.old QC.out TR5.out.below (fun k hk => Nat.le_trans TC.out.below.size (hown5.lt k hk).1)) hown6 hg6 (by rcases hat6 with h | h; exact .inl h; exact .inr ⟨_, h, by simp⟩))
          have TR6 := Aside0.mk (TC.out.below.trans (TL6.out.below.mono TC.out.below.size))
          have hk60 := pw_cell_below TR6.out Q0.out
          have hk61 := pw_cell_below TR6.out Q1.out
          clear hown6 hg6 hat6 hown5 hk50 hk51 hown
          go_wp2_with (go_at_call 17; refine Stp.out ?_)
          unfold Stp
          refine (tree_Depth.calls k A0 c0 b.kids[i].f0 b.kids[i].f1 (dep b.kids[i]) w6 (Kd.C_below QC.out TR6.out) QL.out HDP.out).mono ?_
          rintro e w7 ⟨rfl, hb7⟩
          have TL7 := Aside0.mk (TL6.out.step hb7)
          have hk70 := pw_cell_below hb7 hk60
          have hk71 := pw_cell_below hb7 hk61
          clear hk60 hk61 hb7
          go_wp2_with fail
          have hlen : (gs ++ [b.kids[i]]).length = gs.length + 1 := by simp
          go_roundw
          case rel =>
            refine ⟨i + 1, gs ++ [b.kids[i]], mx d (dep b.kids[i]), m + b.kids[i].f0.length, by omega, rfl, rfl, by go_num, by omega, by omega, by omega, ⟨TL7.out, ?_, ?_, ?_⟩⟩
            · have := HI.out.2.1; rw [HD.out, List.filter_cons_of_pos HF.out] at this; rw [← this]; simp
            · have := HI.out.2.2.1; rw [HD.out, deepF, HF.out] at this; simpa using this
            · have := HI.out.2.2.2; rw [HD.out, manyF, HF.out] at this; simpa using this
          case measure => simp [intOf]; omega
      · have hie : i = b.kids.length := by omega
        subst hie
        have TR := Aside0.mk (TC.out.step HI.out.1.below)
        have zr := TR.out.z
        have n0 := TR.out.n0
        have n1 := TR.out.n1
        have n2 := TR.out.n2
        have n3 := TR.out.n3
        have n4 := TR.out.n4
        have HG := HI.out.2.1
        have HDD := HI.out.2.2.1
        have HM := HI.out.2.2.2
        rw [List.drop_length] at HG HDD HM
        simp only [List.filter_nil, List.append_nil, deepF, manyF] at HG HDD HM
        subst HG
        have HDE := Lib.hid HDD
        have HME := Lib.hid HM
        clear HDD HM
        obtain ⟨Ag, cg, rfl, hcg, hCg⟩ := HI.out.1.reads
        have HCG := Aside0.mk hCg
        have HCC := Aside0.mk hcg
        clear hCg hcg
        go_wp2_with (go_at_call 10; refine Stp.out ?_)
        unfold Stp
        refine (tree_Over.calls k b.n.f0 b.n.f1 b.n.f2 b.n.f3 b.An b.cn b.n.f4 Ag cg (b.kids.filter f) o2 r2 wr (Kd.C_below R.n TR.out.below) R.nc HCG.out HCC.out F.over2).mono ?_
        rintro e w7 ⟨v7, rfl, hS7, hb7⟩
        obtain ⟨Ao, co, rfl⟩ := Kd.S_slice hS7
        have S7 := Aside0.mk hS7
        have TR7 := Aside0.mk (TR.out.step hb7)
        have g1 : ((o2.length : Int) == m) = true := by rw [HME.out, beq_iff_eq]; exact F.len2
        clear hS7 hb7 n0 n1 n2 n3 n4
        go_wp2_with fail
        obtain ⟨_, hlo, hCo⟩ := Kd.S_reads' S7.out
        refine (tree_Sound.calls Ao co o2 r2 (decide (m ≤ 4000)) _ (Kd.C_below hCo ((Below.refl _ _).alloc (Nat.le_refl _) _)) hlo (by rw [F.snd2, HME.out])).mono ?_
        rintro e w8 ⟨rfl, hb8⟩
        have k0 := pw_cell_below hb8 (cell_new (X := w7) (j := 0) (cs := #[.slice Ao o2.length co, .int .i64 r2]) (t := 30) rfl rfl)
        have k1 := pw_cell_below hb8 (cell_new (X := w7) (j := 1) (cs := #[.slice Ao o2.length co, .int .i64 r2]) (t := 30) rfl rfl)
        have B8 := Aside0.mk (TR7.out.alloc (.cells #[.slice Ao o2.length co, .int .i64 r2] 30) |>.step hb8)
        have hd0 : 0 ≤ d ∧ d ≤ 100000 := by rw [HDE.out]; exact F.dd
        have HOR := Lib.hid (show m > 4000 ∨ d2 = d + 1 by rw [HME.out, HDE.out]; exact F.or2)
        have HC8 := Aside0.mk (Kd.C_below (Kd.C_below hCo ((Below.refl _ _).alloc (Nat.le_refl _) (.cells #[.slice Ao o2.length co, .int .i64 r2] 30))) hb8)
        have HLO := Aside0.mk hlo
        clear hCo hlo hb8
        by_cases hm4 : m ≤ 4000
        · have e2 : d2 = d + 1 := by rcases HOR.out with h | h; omega; exact h
          subst e2
          go_wp2_with fail
          refine (tree_Depth.calls k Ao co o2 r2 (d + 1) w8 HC8.out HLO.out F.dep2).mono ?_
          rintro e w9 ⟨rfl, hb9⟩
          go_wp2_with fail
          go_ret
          exact ⟨rfl, (B8.out.step hb9).below⟩
        · go_wp2_with fail
          go_ret
          exact ⟨rfl, B8.out.below⟩
  case first =>
    have z4 := T4.out.z
    have t40 := T4.out.t0
    have t41 := T4.out.t1
    clear t30 t31 t33 z3 z1 hb4
    cases sb with
    | false =>
      go_wp2_with fail
      go_meet
      exact T4
    | true =>
      have hr0 := F.r0 rfl
      have hr1 := F.r1 rfl
      obtain ⟨ad, Ak, ck, eA, q0, q1, q2, q3, q4, qL, qC⟩ := at_T24 (Kd.C_below R.l T4.out.below) b.root hr0 hr1
      have HEA := Lib.hid eA
      rw [eA] at t40
      clear eA
      have QL := Aside0.mk qL
      have QC := Aside0.mk qC
      clear qL qC
      go_wp2_with fail
      obtain ⟨W5, hW5⟩ : ∃ W5, (w4.alloc (.cells #[.int .i64 (rd_T24 b.l b.root).f0, .int .i64 (rd_T24 b.l b.root).f1, .int .i64 (rd_T24 b.l b.root).f2, .string (rd_T24 b.l b.root).f3, .slice Ak (rd_T24 b.l b.root).f4.length ck] 24)) = W5 := ⟨_, rfl⟩
      have hz5 : W5.heap.size = w4.heap.size + 1 := by rw [← hW5]; simp
      have T5 := Aside0.mk (show BW w W5 b by rw [← hW5]; exact T4.out.alloc _)
      have c0 : W5.cell? ⟨w4.heap.size, 0, none⟩ = some (.int .i64 (rd_T24 b.l b.root).f0) := by rw [← hW5]; exact cell_new rfl rfl
      have c1 : W5.cell? ⟨w4.heap.size, 1, none⟩ = some (.int .i64 (rd_T24 b.l b.root).f1) := by rw [← hW5]; exact cell_new rfl rfl
      have c2 : W5.cell? ⟨w4.heap.size, 2, none⟩ = some (.int .i64 (rd_T24 b.l b.root).f2) := by rw [← hW5]; exact cell_new rfl rfl
      have c3 : W5.cell? ⟨w4.heap.size, 3, none⟩ = some (.string (rd_T24 b.l b.root).f3) := by rw [← hW5]; exact cell_new rfl rfl
      have c4 : W5.cell? ⟨w4.heap.size, 4, none⟩ = some (.slice Ak (rd_T24 b.l b.root).f4.length ck) := by rw [← hW5]; exact cell_new rfl rfl
      have QC5 := Aside0.mk (show Kd.C (Kd.int .i64) W5 Ak (rd_T24 b.l b.root).f4.length (rd_T24 b.l b.root).f4 by rw [← hW5]; exact Kd.C_alloc QC.out _)
      rw [hW5]
      have CC0 := Lib.hid c0
      have CC1 := Lib.hid c1
      have CC2 := Lib.hid c2
      have CC3 := Lib.hid c3
      have CC4 := Lib.hid c4
      have hsl := F.slen rfl
      have hbk : (rd_T24 b.l b.root).f4.length ≤ 9223372036854775807 := QC5.out.2.1
      have Z5 := Lib.hid hz5
      have HW5 := Lib.hid hW5
      clear c0 c1 c2 c3 c4 q0 q1 q2 q3 q4 t40 t41 z4 QC T4 hW5 hz5
      go_loopw [11, 12, 13] (fun v11 v12 v13 wr => ∃ i : Nat, i ≤ (rd_T24 b.l b.root).f4.length ∧ v12 = .int .i64 (i : Int) ∧ Aside0 (TL W5 wr v11 (subs.take i))) (fun _ v12 _ _ => (rd_T24 b.l b.root).f4.length - (intOf v12).toNat)
      case atStart => exact ⟨0, Nat.zero_le _, rfl, ⟨TL.nil (Below.refl _ _)⟩⟩
      case round =>
        obtain ⟨i, hi, rfl, HT⟩ := hrel
        have TR := Aside0.mk (T5.out.step HT.out.below)
        have HBL := Aside0.mk HT.out.below
        have r0 := TR.out.t0
        have r1 := TR.out.t1
        have r4 := pw_cell_below HBL.out CC4.out
        rw [HEA.out] at r0
        by_cases hlt : i < (rd_T24 b.l b.root).f4.length
        · obtain ⟨s1, s2, dk, s3, s4⟩ := F.sub rfl i (by omega) hlt
          obtain ⟨adk, ek, hcell⟩ := Kd.at_int QC5.out (i : Int) (by omega) (by omega)
          rw [rdN _ i hlt, Int.toNat_natCast] at hcell
          subst ek
          have r5 : wr.cell? (adk.add i) = some (.int .i64 (rd_T24 b.l b.root).f4[i]) := pw_cell_below HBL.out hcell
          have KS := Lib.hid (show ∀ W', Aside0 (Below wr.heap.size wr W') → W'.cell? ⟨w.heap.size, 0, none⟩ = some (.slice (some ad) b.l.length b.c) ∧ W'.cell? ⟨w.heap.size, 1, none⟩ = some (.int .i64 b.root) ∧ W'.cell? ⟨w4.heap.size, 4, none⟩ = some (.slice (some adk) (rd_T24 b.l b.root).f4.length ck) ∧ W'.cell? (adk.add i) = some (.int .i64 (rd_T24 b.l b.root).f4[i]) ∧ Aside0 (Below wr.heap.size wr W') from fun W' hb =>
            ⟨pw_cell_below hb.out r0, pw_cell_below hb.out r1, pw_cell_below hb.out r4, pw_cell_below hb.out r5, hb⟩)
          have K16 := Lib.hid (show ∀ W', Aside0 (Below wr.heap.size wr W') → Calls Try.prog 16 #[.agg #[.slice (some ad) b.l.length b.c, .int .i64 b.root], .int .i64 (rd_T24 b.l b.root).f4[i]] W' fun e w' => ∃ (Ax : Option Addr) (cx : Nat), e = .returned (.agg #[.slice Ax subs[i].f0.length cx, .int .i64 subs[i].f1]) ∧ Aside0 (Kd.S k24 24 w' W'.heap.size (fun _ => True) (.slice Ax subs[i].f0.length cx) subs[i].f0) ∧ Aside0 (Below W'.heap.size W' w') from fun W' hb =>
            (tree_Sub.calls k (some ad) b.c b.l b.root _ _ _ W' (by rw [← HEA.out]; exact Kd.C_below R.l (TR.out.step hb.out).below) R.lc s1).mono fun e w' ⟨v, he, hS, hb'⟩ => by
              obtain ⟨Ax, cx, rfl⟩ := Kd.S_slice hS
              exact ⟨Ax, cx, he, ⟨hS⟩, ⟨hb'⟩⟩)
          have stepB := Lib.hid (show ∀ (X Y Z : World), Aside0 (Below X.heap.size X Y) → Aside0 (Below Y.heap.size Y Z) → Aside0 (Below X.heap.size X Z) from fun X Y Z h k => ⟨h.out.trans (k.out.mono h.out.size)⟩)
          have HD0 := Aside0.mk (show Below wr.heap.size wr wr.drew from below_drew (Below.refl _ _))
          clear hcell
          go_wp2_with fail
          go_region_held3 (fun W' => W'.cell? ⟨w.heap.size, 0, none⟩ = some (.slice (some ad) b.l.length b.c) ∧ W'.cell? ⟨w.heap.size, 1, none⟩ = some (.int .i64 b.root) ∧ W'.cell? ⟨w4.heap.size, 4, none⟩ = some (.slice (some adk) (rd_T24 b.l b.root).f4.length ck) ∧ W'.cell? (adk.add i) = some (.int .i64 (rd_T24 b.l b.root).f4[i]) ∧ Aside0 (Below wr.heap.size wr W'))
            (first | exact KS.out _ HD0 | (go_split_ands; exact KS.out _ (stepB.out _ _ _ (by assumption) hb9)) | (go_split_ands; exact KS.out _ (belA _ (stepB.out _ _ _ (by assumption) hb9))) | (go_split_ands; exact KS.out _ (belA _ (by assumption))) | (go_split_ands; exact KS.out _ (belD (belA _ ⟨Below.refl _ _⟩))) | (go_split_ands; exact KS.out _ ⟨(KW.two rfl hb9.out hx9.out).below⟩))
            (first
              | (go_at_call 16; go_split_ands; (with_reducible refine (K16.out _ (by assumption)).mono ?_); rintro e w9 ⟨Ax, cx, rfl, hx9, hb9⟩; try (have hz := zero_block (wr := wr) rfl hb9.out; have hz0 := blk_cell hz 0; have hz1 := blk_cell hz 1; have hf0 := blk_frozen hz 0; have hf1 := blk_frozen hz 1; simp only [List.getElem?_toArray, List.getElem?_cons_zero, List.getElem?_cons_succ] at hz0 hz1)))
          all_goals go_split_ands
          all_goals (first
            | (obtain ⟨X, hX⟩ : ∃ X, (w9.alloc (.cells #[.slice Ax subs[i].f0.length cx, .int .i64 subs[i].f1] 30)) = X := ⟨_, rfl⟩
               obtain ⟨g, hg⟩ : ∃ g, w9.heap.size = g := ⟨_, rfl⟩
               have HX := Aside0.mk (show KW wr X g Ax cx subs[i] by rw [← hX, ← hg]; exact KW.one (by first | exact (below_drew (Below.refl _ _)) | exact Aside0.out (by assumption)) hb9.out hx9.out)
               rw [hX, hg])
            | (obtain ⟨X, hX⟩ : ∃ X, ((w9.setCell ⟨wr.heap.size, 0, none⟩ (.slice Ax subs[i].f0.length cx)).setCell ⟨wr.heap.size, 1, none⟩ (.int .i64 subs[i].f1)) = X := ⟨_, rfl⟩
               obtain ⟨g, hg⟩ : ∃ g, wr.heap.size = g := ⟨_, rfl⟩
               have HX := Aside0.mk (show KW wr X g Ax cx subs[i] by rw [← hX, ← hg]; exact KW.two rfl hb9.out hx9.out)
               rw [hX, hg]))
          all_goals (
            have HG := Lib.hid hg
            have HXX := Lib.hid hX
            clear hx9 hb9 hg hX KS K16
            have TX := Aside0.mk (TR.out.step HX.out.below)
            have KX := Lib.hid (show ∀ W', Aside0 (Below X.heap.size X W') → W'.cell? ⟨w.heap.size, 0, none⟩ = some (.slice (some ad) b.l.length b.c) ∧ W'.cell? ⟨w.heap.size, 1, none⟩ = some (.int .i64 b.root) ∧ W'.cell? ⟨g, 0, none⟩ = some (.slice Ax subs[i].f0.length cx) ∧ W'.cell? ⟨g, 1, none⟩ = some (.int .i64 subs[i].f1) ∧ Aside0 (Below X.heap.size X W') from fun W' hb =>
              ⟨by rw [← HEA.out]; exact (TX.out.step hb.out).t0, (TX.out.step hb.out).t1, (HX.out.step hb.out).c0, (HX.out.step hb.out).c1, hb⟩)
            have K15 := Lib.hid (show ∀ W', Aside0 (Below X.heap.size X W') → Calls Try.prog 15 #[.agg #[.slice Ax subs[i].f0.length cx, .int .i64 subs[i].f1]] W' fun e w' => e = .returned (.bool true) ∧ Aside0 (Below W'.heap.size W' w') from fun W' hb => by
              obtain ⟨_, hl, hC⟩ := Kd.S_reads' (HX.out.step hb.out).s
              exact (tree_Sound.calls Ax cx _ _ true W' hC hl s2).mono fun e w' ⟨he, hb'⟩ => ⟨he, ⟨hb'⟩⟩)
            have K17k := Lib.hid (show ∀ W', Aside0 (Below X.heap.size X W') → Calls Try.prog 17 #[.agg #[.slice Ax subs[i].f0.length cx, .int .i64 subs[i].f1]] W' fun e w' => e = .returned (.int .i64 dk) ∧ Aside0 (Below W'.heap.size W' w') from fun W' hb => by
              obtain ⟨_, hl, hC⟩ := Kd.S_reads' (HX.out.step hb.out).s
              exact (tree_Depth.calls k Ax cx _ _ dk W' hC hl s3).mono fun e w' ⟨he, hb'⟩ => ⟨he, ⟨hb'⟩⟩)
            have K17t := Lib.hid (show ∀ W', Aside0 (Below X.heap.size X W') → Calls Try.prog 17 #[.agg #[.slice (some ad) b.l.length b.c, .int .i64 b.root]] W' fun e w' => e = .returned (.int .i64 dt) ∧ Aside0 (Below W'.heap.size W' w') from fun W' hb =>
              (tree_Depth.calls k (some ad) b.c b.l b.root dt W' (by rw [← HEA.out]; exact Kd.C_below R.l (TX.out.step hb.out).below) R.lc (F.depT rfl)).mono fun e w' ⟨he, hb'⟩ => ⟨he, ⟨hb'⟩⟩)
            have HDX := Aside0.mk (show Below X.heap.size X X.drew from below_drew (Below.refl _ _))
            have hcmp : decide (dt ≤ dk) = false := by simp; omega
            go_wp2_with fail
            go_region_held3 (fun W' => W'.cell? ⟨w.heap.size, 0, none⟩ = some (.slice (some ad) b.l.length b.c) ∧ W'.cell? ⟨w.heap.size, 1, none⟩ = some (.int .i64 b.root) ∧ W'.cell? ⟨g, 0, none⟩ = some (.slice Ax subs[i].f0.length cx) ∧ W'.cell? ⟨g, 1, none⟩ = some (.int .i64 subs[i].f1) ∧ Aside0 (Below X.heap.size X W'))
              (first | exact KX.out _ HDX | (go_split_ands; exact KX.out _ (stepB.out _ _ _ (by assumption) hb10)))
              (first
                | (go_at_call 15; go_split_ands; (with_reducible refine (K15.out _ (by assumption)).mono ?_); rintro e w10 ⟨rfl, hb10⟩)
                | (go_at_call 17; go_split_ands; (with_reducible refine (K17k.out _ (by assumption)).mono ?_); rintro e w10 ⟨rfl, hb10⟩)
                | (go_at_call 17; go_split_ands; (with_reducible refine (K17t.out _ (by assumption)).mono ?_); rintro e w10 ⟨rfl, hb10⟩))
            go_split_ands
            have HBX : Aside0 (Below X.heap.size X w10) := by assumption
            have HX10 := Aside0.mk (HX.out.step HBX.out)
            have TL10 := Aside0.mk (HT.out.step HX10.out.below)
            obtain ⟨cs, hown, hcs⟩ := TL10.out.cells
            have hv : ∀ k_, (u11 : Value).ownBlock = some k_ → k_ < wr.heap.size := by
              obtain ⟨cs', hown', _⟩ := HT.out.cells
              exact fun k_ e => (hown'.lt k_ e).2
            obtain ⟨i0, hi0, hz0, hz1, hz2⟩ := info_parts info30
            have HCS := Aside0.mk hcs
            have HV := Aside0.mk hv
            have hle : (subs.take i).length = i := by simp; omega
            clear hcs hv
            go_wp2_with (((with_reducible refine gate_builtin (b := .append) (xs := #[.tmp 74, .tmp 76]) rfl ?_); at_builtin; refine Stp.out ?_))
            unfold Stp
            refine wpList_append_own_at _ rfl _ _ 25 rfl W5.heap.size 30 i0 _ 2 32 Try.underlying25 hi0 hz0 hz1 hz2 rfl (by decide) _ (subs.take i).length cs rfl (own_move hown (fun k hk => Below.heap_alloc w10 _ k (hown.lt k hk).2)) ⟨w10.heap.size, 0, none⟩ 1 1 [.slice Ax subs[i].f0.length cx, .int .i64 subs[i].f1] rfl rfl (World.news_of_block (cs := #[.slice Ax subs[i].f0.length cx, .int .i64 subs[i].f1]) (t := 30) (fr := (0, 0)) (heap_alloc_new w10 _)) (by simp [Value.oneCell']) ?hmax ?hby (by have := TL10.out.below.size; simp; omega) ?_
            case hmax => have := F.kb rfl; simp only [maxLen]; omega
            case hby => have := F.kb rfl; omega
            intro v6 w6 hown6 hg6 _ hat6
            have TL6 := Aside0.mk (TL.append (t := subs[i]) TL10.out.below hown HCS.out (Kd.S_reads' HX10.out.s).2.1 (FC.made HX10.out.s HV.out) hown6 hg6 (by rcases hat6 with h | h; exact .inl h; exact .inr ⟨_, h, by simp⟩))
            clear hown6 hg6 hat6 hown
            have htk : subs.take i ++ [subs[i]] = subs.take (i + 1) := (List.take_succ_eq_append_getElem (by omega)).symm
            rw [htk] at TL6
            go_wp2_with fail
            exact ⟨⟨i + 1, by omega, by go_num, TL6⟩, by simp [intOf]; omega⟩)
        · have hie : i = (rd_T24 b.l b.root).f4.length := by omega
          subst hie
          have r0' := pw_cell_below HBL.out CC0.out
          have r1' := pw_cell_below HBL.out CC1.out
          have r2' := pw_cell_below HBL.out CC2.out
          have r3' := pw_cell_below HBL.out CC3.out
          have htk : subs.take (rd_T24 b.l b.root).f4.length = subs := List.take_of_length_le (by omega)
          rw [htk] at HT
          clear htk hsl
          obtain ⟨Ag, cg, rfl, hcg, hCg⟩ := HT.out.reads
          have HCG := Aside0.mk hCg
          have HCC := Aside0.mk hcg
          clear hCg hcg
          have KS := Lib.hid (show ∀ W', Aside0 (Below wr.heap.size wr W') → W'.cell? ⟨w.heap.size, 0, none⟩ = some (.slice (some ad) b.l.length b.c) ∧ W'.cell? ⟨w.heap.size, 1, none⟩ = some (.int .i64 b.root) ∧ W'.cell? ⟨w4.heap.size, 0, none⟩ = some (.int .i64 (rd_T24 b.l b.root).f0) ∧ W'.cell? ⟨w4.heap.size, 1, none⟩ = some (.int .i64 (rd_T24 b.l b.root).f1) ∧ W'.cell? ⟨w4.heap.size, 2, none⟩ = some (.int .i64 (rd_T24 b.l b.root).f2) ∧ W'.cell? ⟨w4.heap.size, 3, none⟩ = some (.string (rd_T24 b.l b.root).f3) ∧ W'.cell? ⟨w4.heap.size, 4, none⟩ = some (.slice Ak (rd_T24 b.l b.root).f4.length ck) ∧ Aside0 (Below wr.heap.size wr W') from fun W' hb =>
            ⟨pw_cell_below hb.out r0, pw_cell_below hb.out r1, pw_cell_below hb.out r0', pw_cell_below hb.out r1', pw_cell_below hb.out r2', pw_cell_below hb.out r3', pw_cell_below hb.out r4, hb⟩)
          have K10 := Lib.hid (show ∀ W', Aside0 (Below wr.heap.size wr W') → Calls Try.prog 10 #[.agg #[.int .i64 (rd_T24 b.l b.root).f0, .int .i64 (rd_T24 b.l b.root).f1, .int .i64 (rd_T24 b.l b.root).f2, .string (rd_T24 b.l b.root).f3, .slice Ak (rd_T24 b.l b.root).f4.length ck], .slice Ag subs.length cg] W' fun e w' => ∃ (Ax : Option Addr) (cx : Nat), e = .returned (.agg #[.slice Ax on.length cx, .int .i64 orr]) ∧ Aside0 (on.length ≤ cx ∧ Kd.C k24 w' Ax on.length on) ∧ Aside0 (Below W'.heap.size W' w') from fun W' hb =>
            (tree_Over.calls k _ _ _ _ Ak ck _ Ag cg subs on orr W' (Kd.C_below QC5.out (HBL.out.trans (hb.out.mono HBL.out.size))) QL.out (Kd.C_below HCG.out hb.out) HCC.out (F.over rfl)).mono fun e w' ⟨v, he, hS, hb'⟩ => by
              obtain ⟨Ax, cx, rfl, hl, hC⟩ := Kd.S_reads hS
              exact ⟨Ax, cx, he, ⟨hl, hC⟩, ⟨hb'⟩⟩)
          have K12 := Lib.hid (show ∀ W' Ax cx, Aside0 (Below wr.heap.size wr W') → Aside0 (on.length ≤ cx ∧ Kd.C k24 W' Ax on.length on) → Calls Try.prog 12 #[.agg #[.slice Ax on.length cx, .int .i64 orr], .agg #[.slice (some ad) b.l.length b.c, .int .i64 b.root]] W' fun e w' => e = .returned (.bool true) ∧ Aside0 (Below W'.heap.size W' w') from fun W' Ax cx hb hC =>
            (runnellaw4_like.calls k Ax cx on orr (some ad) b.c b.l b.root true W' hC.out.2 hC.out.1 (by rw [← HEA.out]; exact Kd.C_below R.l (TR.out.step hb.out).below) R.lc (F.like rfl)).mono fun e w' ⟨he, hb'⟩ => ⟨he, ⟨hb'⟩⟩)
          have stepB := Lib.hid (show ∀ (X Y Z : World), Aside0 (Below X.heap.size X Y) → Aside0 (Below Y.heap.size Y Z) → Aside0 (Below X.heap.size X Z) from fun X Y Z h k => ⟨h.out.trans (k.out.mono h.out.size)⟩)
          have HD0 := Aside0.mk (show Below wr.heap.size wr wr.drew from below_drew (Below.refl _ _))
          go_wp2_with fail
          go_region_held3 (fun W' => W'.cell? ⟨w.heap.size, 0, none⟩ = some (.slice (some ad) b.l.length b.c) ∧ W'.cell? ⟨w.heap.size, 1, none⟩ = some (.int .i64 b.root) ∧ W'.cell? ⟨w4.heap.size, 0, none⟩ = some (.int .i64 (rd_T24 b.l b.root).f0) ∧ W'.cell? ⟨w4.heap.size, 1, none⟩ = some (.int .i64 (rd_T24 b.l b.root).f1) ∧ W'.cell? ⟨w4.heap.size, 2, none⟩ = some (.int .i64 (rd_T24 b.l b.root).f2) ∧ W'.cell? ⟨w4.heap.size, 3, none⟩ = some (.string (rd_T24 b.l b.root).f3) ∧ W'.cell? ⟨w4.heap.size, 4, none⟩ = some (.slice Ak (rd_T24 b.l b.root).f4.length ck) ∧ Aside0 (Below wr.heap.size wr W'))
            (first | exact KS.out _ HD0 | (go_split_ands; exact KS.out _ (stepB.out _ _ _ (by assumption) hb9)))
            (first
              | (go_at_call 12; go_split_ands; (with_reducible refine (K12.out _ _ _ (by assumption) (by assumption)).mono ?_); rintro e w9 ⟨rfl, hb9⟩)
              | (go_at_call 10; go_split_ands; (with_reducible refine (K10.out _ (by assumption)).mono ?_); rintro e w9 ⟨Ax, cx, rfl, hx9, hb9⟩))
          go_wp2_with fail
          go_split_ands
          go_meet
          have HFIN : Aside0 (Below wr.heap.size wr w9) := by assumption
          exact ⟨TR.out.step HFIN.out⟩
end Go.Proofs.Ytpggidmpkhmijaa.P
