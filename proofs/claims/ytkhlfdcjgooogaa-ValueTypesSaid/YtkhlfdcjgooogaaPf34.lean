import Derived.Test.YtkhlfdcjgooogaaHeapC
import Derived.Laws.OwnMore
import Derived.LoopTactic
import Derived.Test.YtkhlfdcjgooogaaTrB
set_option linter.unusedVariables false
set_option linter.unusedSimpArgs false
namespace Go.Proofs.Ytkhlfdcjgooogaa.P
open Go.RowKit Go.Proofs.YtkhlfdcjgooogaaW.PrintWords Go.Proofs.YtkhlfdcjgooogaaW.PrintLast Go.Proofs.YtkhlfdcjgooogaaW.PrintMore
structure Chg (S : Nat → Prop) (w w' : World) : Prop where
 os : w'.os = w.os
 tape : w'.tape = w.tape
 output : w'.output = w.output
 size : w.heap.size ≤ w'.heap.size
 block : ∀ k, k < w.heap.size → ¬ S k → w'.heap[k]? = w.heap[k]?
theorem Chg.refl (S : Nat → Prop) (w : World) : Chg S w w := ⟨rfl, rfl, rfl, Nat.le_refl _, fun _ _ _ => rfl⟩
theorem Chg.of {S : Nat → Prop} {w w' : World} (h : Below w.heap.size w w') : Chg S w w' := ⟨h.os, h.tape, h.output, h.size, fun k hk _ => h.block k hk⟩
theorem Chg.trans {S T : Nat → Prop} {a b c : World} (h : Chg S a b) (k : Chg T b c) (hs : ∀ x, x < a.heap.size → T x → S x) : Chg S a c :=
 ⟨k.os.trans h.os, k.tape.trans h.tape, k.output.trans h.output, Nat.le_trans h.size k.size, fun i hi hn => (k.block i (Nat.lt_of_lt_of_le hi h.size) (fun ht => hn (hs i hi ht))).trans (h.block i hi hn)⟩
theorem Chg.then {S : Nat → Prop} {a b c : World} (h : Chg S a b) (k : Below b.heap.size b c) : Chg S a c := h.trans (T := fun _ => False) (Chg.of k) (fun _ _ hf => hf.elim)
theorem Chg.set {S : Nat → Prop} {a b : World} (h : Chg S a b) (p : Addr) (u : Value) (hp : p.block < a.heap.size → S p.block) : Chg S a (b.setCell p u) := by
 refine ⟨?_, ?_, ?_, ?_, fun k hk hn => ?_⟩
 ·simpa [World.setCell] using h.os
 ·simpa [World.setCell] using h.tape
 ·simpa [World.setCell] using h.output
 ·simpa [World.setCell] using h.size
 ·exact (Below.heap_setCell b p u k (fun e => hn (e ▸ hp (e ▸ hk)))).trans (h.block k hk hn)
theorem Chg.mono {S T : Nat → Prop} {a b : World} (h : Chg S a b) (hs : ∀ x, x < a.heap.size → S x → T x) : Chg T a b := ⟨h.os, h.tape, h.output, h.size, fun k hk hn => h.block k hk (fun hx => hn (hs k hk hx))⟩
theorem Chg.below {S : Nat → Prop} {a b : World} (h : Chg S a b) {n : Nat} (hn : n ≤ a.heap.size) (hs : ∀ x, x < n → ¬ S x) : Below n a b := ⟨h.os, h.tape, h.output, h.size, fun k hk => h.block k (Nat.lt_of_lt_of_le hk hn) (hs k hk)⟩
theorem size_set (w : World) (p : Addr) (u : Value) : (w.setCell p u).heap.size = w.heap.size := by simp [World.setCell]
set_option maxRecDepth 100000 in
set_option maxHeartbeats 2000000 in
theorem add_any (B : Nat) (x n : Int) (w : World) (hc : w.cell? ⟨B, 1, none⟩ = some (.int .i64 x)) (hf : w.frozen? ⟨B, 1, none⟩ = false) (hx : 0 ≤ x) (hx1 : x ≤ 1000000) (hn : -1000000 ≤ n) (hn1 : n ≤ 1000000) :
  Calls Try.prog 45 #[.pointer (some ⟨B, 1, none⟩), .int .i64 n] w fun e w' => e = .returned (.int .i64 (x + n)) ∧ w' = w.setCell ⟨B, 1, none⟩ (.int .i64 (x + n)) := by
 have hadd := run_call_add (P := Try.prog) Try.func62 (by kernel_rfl) (by kernel_rfl) (by kernel_rfl) .i64 (by kernel_rfl) (y := n) (s := x + n) hc hf (by
  have e : IntKind.i64.wrap (x + n) = x + n := IntWalk.i64_in _ (by omega)
  simp [Op.intArith, go_sem, e])
 go_enter Try.func45, Try.ntmps45
 go_wp2
 go_ret
 exact ⟨rfl, rfl⟩
set_option maxRecDepth 100000 in
set_option maxHeartbeats 2000000 in
theorem new_size (B : Nat) (n : Int) (w : World) (h : n < 0 ∨ 65536 < n) :
  Calls Try.prog 20 #[.pointer (some ⟨B, 0, none⟩), .int .i64 n] w fun e w' => e = .returned (.tuple #[.agg #[.int .i64 0, .int .i64 0], .int .i64 4, .bool true]) ∧ Below w.heap.size w w' := by
 by_cases h0 : n < 0
 ·have d0 : decide (n < 0) = true := by simp [h0]
  clear h h0
  go_enter Try.func20, Try.ntmps20
  go_wp2_with fail
  refine bodyPost_ret (results_ctt rfl _ _ w.heap.size 23 #[.int .i64 0, .int .i64 0] (0, 0) _ rfl (heap_alloc_new w _) Try.underlying23 rfl (by kernel_rfl)) rfl ?_
  exact ⟨rfl, below_alloc (Below.refl _ _) _⟩
 ·have d0 : decide (n < 0) = false := by simp; omega
  have d1 : decide (65536 < n) = true := by simp; omega
  clear h h0
  go_enter Try.func20, Try.ntmps20
  go_wp2_with fail
  refine bodyPost_ret (results_ctt rfl _ _ w.heap.size 23 #[.int .i64 0, .int .i64 0] (0, 0) _ rfl (heap_alloc_new w _) Try.underlying23 rfl (by kernel_rfl)) rfl ?_
  exact ⟨rfl, below_alloc (Below.refl _ _) _⟩
theorem add_blk {B : Nat} {v : Value} {x n : Int} {w : World} (hB : w.heap[B]? = some (.cells #[v, .int .i64 x] 47 (0, 0))) (hx : 0 ≤ x) (hx1 : x ≤ 1000000) (hn : -1000000 ≤ n) (hn1 : n ≤ 1000000) :
  Calls Try.prog 45 #[.pointer (some ⟨B, 1, none⟩), .int .i64 n] w fun e w' => e = .returned (.int .i64 (x + n)) ∧ w'.heap.size = w.heap.size ∧ w'.heap[B]? = some (.cells #[v, .int .i64 (x + n)] 47 (0, 0)) ∧ Chg (· = B) w w' := by
 refine (add_any B x n w ((blk_cell hB 1).trans rfl) (blk_frozen hB 1) hx hx1 hn hn1).mono fun e w' h => ?_
 obtain ⟨he, hw⟩ := h
 subst hw
 exact ⟨he, size_set _ _ _, blk_put hB 1 _ rfl, (Chg.refl _ _).set _ _ (fun _ => rfl)⟩
set_option maxRecDepth 100000 in
set_option maxHeartbeats 2000000 in
theorem new_full (B : Nat) (v : Value) (x n : Int) (w : World) (hB : w.heap[B]? = some (.cells #[v, .int .i64 x] 47 (0, 0))) (h0 : 0 ≤ n) (h1 : n ≤ 65536) (hx : 0 ≤ x) (hx1 : x ≤ 262144) (hr : 262144 < x + n + 1) :
  Calls Try.prog 20 #[.pointer (some ⟨B, 0, none⟩), .int .i64 n] w fun e w' => e = .returned (.tuple #[.agg #[.int .i64 0, .int .i64 0], .int .i64 0, .bool false]) ∧ w'.heap[B]? = some (.cells #[v, .int .i64 x] 47 (0, 0)) ∧ Chg (· = B) w w' := by
 have d0 : decide (n < 0) = false := by simp; omega
 have d1 : decide (65536 < n) = false := by simp; omega
 have d2 : decide (262144 < x + (n + 1)) = true := by simp; omega
 have hlt := blk_lt hB
 have hB1 := Lib.hid (blk_alloc hB (.cells #[.int .i64 0, .int .i64 0] 23))
 have hR1 := Lib.hid (heap_alloc_new w (.cells #[.int .i64 0, .int .i64 0] 23))
 have hne : w.heap.size ≠ B := by omega
 have hw1 : IntKind.i64.wrap (-(n + 1)) = -(n + 1) := IntWalk.i64_in _ (by omega)
 clear hB
 go_enter Try.func20, Try.ntmps20
 go_wp2_with (go_at_call 45; refine (add_blk hB1.out hx (by omega) (by omega) (by omega)).mono ?_; rintro e w1 ⟨rfl, hz, hB2, hc⟩; have hsz := Lib.hid hz; have hR2 := Lib.hid ((hc.block _ (by simp) hne).trans hR1.out); have HB2 := Lib.hid hB2; have HC := Lib.hid hc; clear hz hB2 hc)
 refine (add_blk HB2.out (by omega) (by omega) (by omega) (by omega)).mono ?_
 rintro e w2 ⟨rfl, hz, hB2, hc⟩
 have e1 : x + (n + 1) + -(n + 1) = x := by omega
 rw [e1] at hB2
 have hsz2 := Lib.hid hz
 have hR3 := Lib.hid ((hc.block _ (by rw [hsz.out]; simp) hne).trans hR2.out)
 have HB3 := Lib.hid hB2
 have HC2 := Lib.hid hc
 have c0 : w2.cell? ⟨w.heap.size, 0, none⟩ = some (.int .i64 0) := (blk_cell hR3.out 0).trans rfl
 have c1 : w2.cell? ⟨w.heap.size, 1, none⟩ = some (.int .i64 0) := (blk_cell hR3.out 1).trans rfl
 have f0 := blk_frozen hR3.out 0
 have f1 := blk_frozen hR3.out 1
 clear hz hB2 hc e1
 go_wp2_with fail
 refine bodyPost_ret (results_ctt rfl _ _ w.heap.size 23 #[.int .i64 0, .int .i64 0] (0, 0) _ rfl (blk_put (blk_put hR3.out 0 _ rfl) 1 _ rfl) Try.underlying23 rfl (by kernel_rfl)) rfl ?_
 refine ⟨rfl, ?_, ?_⟩
 ·exact (Below.heap_setCell _ _ _ B (Ne.symm hne)).trans ((Below.heap_setCell _ _ _ B (Ne.symm hne)).trans HB3.out)
 ·exact ((((Chg.of (below_alloc (Below.refl _ _) _)).trans HC.out (fun _ _ h => h)).trans HC2.out (fun _ _ h => h)).set _ _ (fun h => absurd h (Nat.lt_irrefl _))).set _ _ (fun h => absurd h (Nat.lt_irrefl _))
theorem cell_new {X : World} {cs : Array Value} {t n j : Nat} {v : Value} (hn : n = X.heap.size) (h : cs[j]? = some v) : (X.alloc (.cells cs t)).cell? ⟨n, j, none⟩ = some v := by
 subst hn
 exact (blk_cell (heap_alloc_new X _) j).trans h
theorem cell_old {X : World} {o : Obj} {a : Addr} {v : Value} (h : X.cell? a = some v) : (X.alloc o).cell? a = some v := pw_cell_below ((Below.refl _ _).alloc (Nat.le_refl _) _) h
theorem cell_drew {X : World} {a : Addr} {v : Value} (h : X.cell? a = some v) : X.drew.cell? a = some v := h
theorem own_slice {W : World} {base size n e : Nat} {v : Value} {xs : List Value} (h : W.ownsRow base e size v n xs) : ∃ A c, v = .slice A n c := by
 obtain ⟨_, ho⟩ := h
 rcases ho with ⟨rfl, h0⟩ | ⟨g', cap, cur, rfl, _⟩
 ·exact ⟨none, 0, by rw [h0]⟩
 ·exact ⟨_, _, rfl⟩
theorem own_ne70 {W : World} {base size n t g : Nat} {v : Value} {xs : List Value} {cs : Array Value} (h : W.ownsRow base 70 size v n xs) (hB : W.heap[g]? = some (.cells cs t (0, 0))) (ht : t ≠ 70) : some g ≠ v.ownBlock := by
 intro e
 obtain ⟨_, ho⟩ := h
 rcases ho with ⟨rfl, _⟩ | ⟨g', cap, cur, rfl, hb, hh, _⟩
 ·simp [Value.ownBlock] at e
 ·have e' : g = g' := by simpa [Value.ownBlock] using e
  subst e'
  rw [hh] at hB
  injection hB with hB
  injection hB with _ hB
  exact ht hB.symm
theorem Arrs.ne {W : World} {ok : Nat → Prop} {v : Value} {gs : List (Nat × Nat)} {L : List (List Int)} (h : Arrs W ok v gs L) {g t : Nat} {cs : Array Value} (hB : W.heap[g]? = some (.cells cs t (0, 0))) (h1 : t ≠ 70) (h2 : t ≠ 3) : v.ownBlock ≠ some g ∧ g ∉ gs.map Prod.fst := by
 refine ⟨fun e => own_ne70 h.own hB h1 e.symm, fun hm => ?_⟩
 obtain ⟨j, hj, e⟩ := List.getElem_of_mem hm
 have hj' : j < gs.length := by simpa using hj
 obtain ⟨_, cur, h3, _⟩ := h.at_ j hj' (h.len ▸ hj')
 have e' : gs[j].1 = g := by simpa using e
 rw [e', hB] at h3
 injection h3 with h3
 injection h3 with _ h3
 exact h2 h3
theorem Arrs.step' {W W' : World} {ok : Nat → Prop} {v : Value} {gs : List (Nat × Nat)} {L : List (List Int)} (h : Arrs W ok v gs L) (hs : ∀ k, k < W.heap.size → (v.ownBlock = some k ∨ k ∈ (gs.map Prod.fst)) → W'.heap[k]? = W.heap[k]?) : Arrs W' ok v gs L :=
 ⟨own_move h.own (fun k hk => hs k (own_lt h.own k hk) (.inl hk)), h.vok, h.len, h.nd, fun j hj hj' => ⟨(h.at_ j hj hj').1, let ⟨cur, h1, h2⟩ := (h.at_ j hj hj').2; ⟨cur, (hs _ (blk_lt h1) (.inr (List.mem_map.2 ⟨_, List.getElem_mem hj, rfl⟩))).trans h1, h2⟩⟩⟩
theorem cells_snoc : ∀ (L : List (List Int)) (xs : List Int), cellsOf (L ++ [xs]) = cellsOf L + (1 + xs.length)
 | [], xs => by simp [cellsOf]
 | l :: L, xs => by simp [cellsOf, cells_snoc L xs]; omega
theorem rows_snoc : ∀ (gs : List (Nat × Nat)) (L : List (List Int)) (g : Nat × Nat) (xs : List Int), gs.length = L.length → rows (gs ++ [g]) (L ++ [xs]) = rows gs L ++ [.slice (some ⟨g.1, 0, none⟩) xs.length g.2]
 | [], [], _, _, _ => rfl
 | g :: gs, l :: L, g', xs, h => by simp [rows, rows_snoc gs L g' xs (by simpa using h)]
 | [], _ :: _, _, _, h => by simp at h
 | _ :: _, [], _, _, h => by simp at h
theorem arrs_new {M w3 : World} {ok ok' : Nat → Prop} {v v1 : Value} {gs : List (Nat × Nat)} {L : List (List Int)} {g q : Nat} {xs : List Int} {cu : Array Value} (hA : Arrs M ok v gs L) (hg : M.heap[g]? = some (.cells cu 3 (0, 0))) (hcu : cu.toList.take xs.length = ints xs) (hgn : g ∉ gs.map Prod.fst)
  (hown : w3.ownsRow 0 70 1 v1 (L.length + 1) (rows gs L ++ [.slice (some ⟨g, 0, none⟩) xs.length q])) (hgr : M.grownBy w3 v.ownBlock) (hat : v1.ownBlock = v.ownBlock ∨ ∃ b, v1.ownBlock = some b ∧ M.heap.size ≤ b)
  (hok : ∀ k, ok k → ok' k) (hok' : ok' g) (hnew : ∀ k, M.heap.size ≤ k → k < w3.heap.size → ok' k) : Arrs w3 ok' v1 (gs ++ [(g, q)]) (L ++ [xs]) := by
 have hne : ∀ k (cs : Array Value), M.heap[k]? = some (.cells cs 3 (0, 0)) → some k ≠ v.ownBlock := fun k cs hk => own_ne70 hA.own hk (by decide)
 refine ⟨?_, fun k hk => ?_, by simp [hA.len], ?_, fun j hj hj' => ?_⟩
 ·rw [rows_snoc gs L (g, q) _ hA.len]
  simpa using hown
 ·rcases hat with h | ⟨b, h, hb⟩
  ·exact hok k (hA.vok k (h ▸ hk))
  ·rw [h] at hk
   injection hk with hk
   subst hk
   exact hnew _ hb (own_lt hown _ h)
 ·rw [List.map_append, List.nodup_append]
  exact ⟨hA.nd, by simp, fun a ha b hb => by simp at hb; subst hb; exact fun e => hgn (e ▸ ha)⟩
 ·by_cases hlt : j < gs.length
  ·have hl2 : j < L.length := hA.len ▸ hlt
   obtain ⟨h, cur, h1, h2⟩ := hA.at_ j hlt hl2
   rw [List.getElem_append_left hlt, List.getElem_append_left hl2]
   exact ⟨hok _ h, cur, (hgr.block _ (blk_lt h1) (hne _ _ h1)).trans h1, h2⟩
  ·have hj2 : j = gs.length := by simp at hj; omega
   subst hj2
   rw [List.getElem_append_right (by omega), List.getElem_append_right (by rw [hA.len]; omega)]
   simp only [Nat.sub_self, List.getElem_singleton]
   exact ⟨hok', cu, (hgr.block _ (blk_lt hg) (hne _ _ hg)).trans hg, by simpa [hA.len] using hcu⟩
set_option maxRecDepth 100000 in
set_option maxHeartbeats 2000000 in
theorem new_is (B : Nat) (v : Value) (gs : List (Nat × Nat)) (ok : Nat → Prop) (L : List (List Int)) (n : Int) (w : World) (hB : w.heap[B]? = some (.cells #[v, .int .i64 (cellsOf L)] 47 (0, 0))) (hA : Arrs w ok v gs L) (hok : ok B) (h0 : 0 ≤ n) (h1 : n ≤ 65536) (hx : (L.length : Int) ≤ cellsOf L) (hr : cellsOf L + n + 1 ≤ 262144) :
  Calls Try.prog 20 #[.pointer (some ⟨B, 0, none⟩), .int .i64 n] w fun e w' => e = .returned (.tuple #[.agg #[.int .i64 3, .int .i64 (L.length + 1)], .int .i64 0, .bool true]) ∧ HA w' B (fun k => ok k ∨ (w.heap.size ≤ k ∧ k < w'.heap.size)) (L ++ [List.replicate n.toNat 0]) ∧ Chg ok w w' := by
 have d0 : decide (n < 0) = false := by simp; omega
 have d1 : decide (65536 < n) = false := by simp; omega
 have d2 : decide (262144 < cellsOf L + (n + 1)) = false := by simp; omega
 have hlt := blk_lt hB
 have hB1 := Lib.hid (blk_alloc hB (.cells #[.int .i64 0, .int .i64 0] 23))
 have hR1 := Lib.hid (heap_alloc_new w (.cells #[.int .i64 0, .int .i64 0] 23))
 have hne : w.heap.size ≠ B := by omega
 have hmk := print_make_int (P := Try.prog) 70 3 (.int .i64 0) 8 Try.underlying70 (by kernel_rfl) rfl (by decide) n h0 (by omega)
 have hA1 := hA.step (W' := w.alloc (.cells #[.int .i64 0, .int .i64 0] 23)) (fun k hk _ => (below_alloc (Below.refl _ _) _).block k hk)
 clear hB hA
 go_enter Try.func20, Try.ntmps20
 go_wp2_with (go_at_call 45; refine (add_blk hB1.out (by omega) (by omega) (by omega) (by omega)).mono ?_; rintro e w1 ⟨rfl, hz, hB2, hc⟩; have hsz := Lib.hid hz; have hR2 := Lib.hid ((hc.block _ (by simp) hne).trans hR1.out); have HB2 := Lib.hid hB2; have HC := Lib.hid hc; clear hz hB2 hc)
 have hA2 := Lib.hid (hA1.step' (W' := w1) (fun k hk ho => HC.out.block k hk (fun e => by have h := hA1.ne hB1.out (by decide) (by decide); rcases ho with ho | ho; exact h.1 (e ▸ ho); exact h.2 (e ▸ ho))))
 have k0 : w1.drew.cell? ⟨B, 0, none⟩ = some v := (blk_cell HB2.out 0).trans rfl
 have hltB := blk_lt HB2.out
 have hsM : Hid ((w1.drew.alloc (.cells (madeCells #[.int .i64 0] n.toNat) 3)).heap.size = w1.heap.size + 1) := Lib.hid (by simp)
 clear d0 d1 d2
 refine start_ (n := 12) (S := fun w' => w'.cell? ⟨B, 0, none⟩ = some v) (ds := [8, 11]) #[false, false, false, false, false, false, false, false, false, false, false, false] (by kernel_rfl) rfl rfl (k0) (fun hHeld => ?_)
 refine pure_ (i := 0) (N := some 29) (v := ?_) (a' := ?_) #[true, false, false, false, false, false, false, false, false, false, false, false] rfl rfl (by kernel_rfl) (fun _ _ _ h => h) (Or.inl ⟨by rfl, ?_⟩) ?_ ?_
 rotate_left
 ·intro w'
  go_simp
  with_reducible rfl
 rotate_left
 ·simp only [Act.put, List.setIfInBounds_toArray, List.set_cons_zero, List.set_cons_succ, i64_w, i32_w]
  rfl
 refine pure_ (i := 1) (N := some 30) (v := ?_) (a' := ?_) #[true, true, false, false, false, false, false, false, false, false, false, false] rfl rfl (by kernel_rfl) (fun _ _ _ h => h) (Or.inl ⟨by rfl, ?_⟩) ?_ ?_
 rotate_left
 ·intro w'
  go_simp
  with_reducible rfl
 rotate_left
 ·simp only [Act.put, List.setIfInBounds_toArray, List.set_cons_zero, List.set_cons_succ, i64_w, i32_w]
  rfl
 refine pure_ (i := 2) (N := some 31) (v := ?_) (a' := ?_) #[true, true, true, false, false, false, false, false, false, false, false, false] rfl rfl (by kernel_rfl) (fun _ _ _ h => h) (Or.inl ⟨by rfl, ?_⟩) ?_ ?_
 rotate_left
 ·intro w'
  go_simp
  with_reducible rfl
 rotate_left
 ·simp only [Act.put, List.setIfInBounds_toArray, List.set_cons_zero, List.set_cons_succ, i64_w, i32_w]
  rfl
 refine pure_ (i := 3) (N := some 32) (v := ?_) (a' := ?_) #[true, true, true, true, false, false, false, false, false, false, false, false] rfl rfl (by kernel_rfl) (fun _ _ _ h => h) (Or.inl ⟨by rfl, ?_⟩) ?_ ?_
 rotate_left
 ·intro w'
  go_simp
  with_reducible rfl
 rotate_left
 ·simp only [Act.put, List.setIfInBounds_toArray, List.set_cons_zero, List.set_cons_succ, i64_w, i32_w]
  rfl
 refine pure_ (i := 5) (N := some 34) (v := ?_) (a' := ?_) #[true, true, true, true, false, true, false, false, false, false, false, false] rfl rfl (by kernel_rfl) (fun _ _ _ h => h) (Or.inl ⟨by rfl, ?_⟩) ?_ ?_
 rotate_left
 ·intro w'
  go_simp
  with_reducible rfl
 rotate_left
 ·simp only [Act.put, List.setIfInBounds_toArray, List.set_cons_zero, List.set_cons_succ, i64_w, i32_w]
  rfl
 refine take_ (i := 4) (N := some 33) (v := ?_) (a' := ?_) #[true, true, true, true, true, true, false, false, false, false, false, false] rfl rfl (by kernel_rfl) (fun _ _ _ h => h) (Or.inl ⟨by rfl, ?_⟩) hHeld ?_ ?_
 rotate_left
 ·intro w' s0
  go_simp
  with_reducible rfl
 rotate_left
 ·simp only [Act.put, List.setIfInBounds_toArray, List.set_cons_zero, List.set_cons_succ, i64_w, i32_w]
  rfl
 refine one_ (i := 6) (N := some 35) #[true, true, true, true, true, true, true, false, false, false, false, false] rfl rfl (by kernel_rfl) (by decide) (fun K hK => ?_)
 refine value_ (w1 := ?_) (v := ?_) (by rfl) rfl ?_ ?_
 rotate_left 2
 ·go_simp
  constructor
  ·rfl
  ·rfl
 refine hK.out _ _ (cell_old hHeld) (fun hHeld => ?_)
 clear hK K
 refine norm_ (a' := ?_) ?_ ?_
 rotate_left
 ·show Act.put _ (some 35) _ = _
  simp only [Act.put, List.setIfInBounds_toArray, List.set_cons_zero, List.set_cons_succ, i64_w, i32_w]
  rfl
 refine one_ (i := 7) (N := some 36) #[true, true, true, true, true, true, true, true, false, false, false, false] rfl rfl (by kernel_rfl) (by decide) (fun K hK => ?_)
 refine value_ (w1 := ?_) (v := ?_) (by rfl) rfl ?_ ?_
 rotate_left 2
 ·go_simp
  constructor
  ·rfl
  ·rfl
 refine hK.out _ _ (cell_old hHeld) (fun hHeld => ?_)
 clear hK K
 refine norm_ (a' := ?_) ?_ ?_
 rotate_left
 ·show Act.put _ (some 36) _ = _
  simp only [Act.put, List.setIfInBounds_toArray, List.set_cons_zero, List.set_cons_succ, i64_w, i32_w]
  rfl
 refine last_ (i := 8) (N := some 37) #[true, true, true, true, true, true, true, true, true, false, false, false] rfl rfl (by kernel_rfl) (by decide) (fun K hK => ?_)
 refine step_append_cells (w0 := w1.drew.alloc (.cells (madeCells #[.int .i64 0] n.toNat) 3)) 0 (by rfl) (.tmp 33) (.tmp 36) 40 70 (.slice none 0 0) 1 24 (by rfl) Try.underlying40 (by kernel_rfl) rfl (by decide) (by decide) v L.length (rows gs L) [.slice (some ⟨w1.heap.size, 0, none⟩) n.toNat n.toNat] (by rfl) (by rw [hsM.out]; rfl) rfl (by simp [Value.oneCell']) (hA2.out.own.drew.alloc _) (Below.refl _ _) (Nat.zero_le _) (by omega) ?_
 intro v1 w3 hown hbel hgr hat
 obtain ⟨A1, cp1, rfl⟩ := own_slice hown
 have HH := Lib.hid (And.intro hown (And.intro hbel (And.intro hgr hat)))
 clear hown hbel hgr hat
 refine hK.out _ _ ?_
 clear hK K
 refine norm_ (a' := ?_) ?_ ?_
 rotate_left
 ·show Act.put _ (some 37) _ = _
  simp only [Act.put, List.setIfInBounds_toArray, List.set_cons_zero, List.set_cons_succ, i64_w, i32_w]
  rfl
 refine pure_ (i := 9) (N := some 38) (v := ?_) (a' := ?_) #[true, true, true, true, true, true, true, true, true, true, false, false] rfl rfl (by kernel_rfl) (fun _ _ _ h => h) (Or.inl ⟨by rfl, ?_⟩) ?_ ?_
 rotate_left
 ·intro w'
  go_simp
  with_reducible rfl
 rotate_left
 ·simp only [Act.put, List.setIfInBounds_toArray, List.set_cons_zero, List.set_cons_succ, i64_w, i32_w]
  rfl
 refine pure_ (i := 10) (N := some 39) (v := ?_) (a' := ?_) #[true, true, true, true, true, true, true, true, true, true, true, false] rfl rfl (by kernel_rfl) (fun _ _ _ h => h) (Or.inl ⟨by rfl, ?_⟩) ?_ ?_
 rotate_left
 ·intro w'
  go_simp
  with_reducible rfl
 rotate_left
 ·simp only [Act.put, List.setIfInBounds_toArray, List.set_cons_zero, List.set_cons_succ, i64_w, i32_w]
  rfl
 refine last_ (i := 11) (N := none) #[true, true, true, true, true, true, true, true, true, true, true, true] rfl rfl (by kernel_rfl) (by decide) (fun K hK => ?_)
 have hB5 : w3.heap[B]? = some (.cells #[v, .int .i64 (cellsOf L + (n + 1))] 47 (0, 0)) := (HH.out.2.2.1.block B (by simp; omega) (own_ne70 hA2.out.own HB2.out (by decide))).trans ((below_alloc (below_drew (Below.refl _ _)) _).block B (by omega) |>.trans HB2.out)
 have cB := blk_cell hB5 0
 have fB := blk_frozen hB5 0
 refine skip_ (w1 := ?_) (by rfl) rfl ?_ ?_
 rotate_left
 ·go_simp
  rfl
 refine hK.out _ _ ?_
 clear hK K
 refine done_ (by kernel_rfl) ?_
 obtain ⟨w4, hw4⟩ : ∃ w4, w4 = w3.setCell ⟨B, 0, none⟩ (.slice A1 (L.length + 1) cp1) := ⟨_, rfl⟩
 rw [← hw4]
 have hR3 : w3.heap[w.heap.size]? = some (.cells #[.int .i64 0, .int .i64 0] 23 (0, 0)) := (HH.out.2.2.1.block _ (by rw [hsM.out, hsz.out]; simp; omega) (own_ne70 hA2.out.own hR2.out (by decide))).trans (((below_alloc (below_drew (Below.refl _ _)) _).block _ (by rw [hsz.out]; simp)).trans hR2.out)
 have HW := Lib.hid hw4
 have hB6 : Hid (w4.heap[B]? = some (.cells #[.slice A1 (L.length + 1) cp1, .int .i64 (cellsOf L + (n + 1))] 47 (0, 0))) := Lib.hid (by rw [hw4]; exact blk_put hB5 0 _ rfl)
 have hR4 : Hid (w4.heap[w.heap.size]? = some (.cells #[.int .i64 0, .int .i64 0] 23 (0, 0))) := Lib.hid (by rw [hw4]; exact (Below.heap_setCell _ _ _ _ hne).trans hR3)
 have HB5 := Lib.hid hB5
 have HR3 := Lib.hid hR3
 clear cB fB hw4 hB5 hR3
 have c0 : w4.cell? ⟨w.heap.size, 0, none⟩ = some (.int .i64 0) := (blk_cell hR4.out 0).trans rfl
 have c1 : w4.cell? ⟨w.heap.size, 1, none⟩ = some (.int .i64 0) := (blk_cell hR4.out 1).trans rfl
 have f0 := blk_frozen hR4.out 0
 have f1 := blk_frozen hR4.out 1
 have cB : w4.cell? ⟨B, 0, none⟩ = some (.slice A1 (L.length + 1) cp1) := (blk_cell hB6.out 0).trans rfl
 go_wp2_with fail
 refine bodyPost_ret (results_ctt rfl _ _ w.heap.size 23 #[.int .i64 3, .int .i64 (L.length + 1)] (0, 0) _ rfl (blk_put (blk_put hR4.out 0 _ rfl) 1 _ rfl) Try.underlying23 rfl (by kernel_rfl)) rfl ?_
 refine ⟨rfl, ?_, ?_⟩
 ·have HM : Arrs (w1.drew.alloc (.cells (madeCells #[.int .i64 0] n.toNat) 3)) ok v gs L := hA2.out.step (fun k hk _ => (below_alloc (below_drew (Below.refl _ _)) _).block k hk)
  have hg : (w1.drew.alloc (.cells (madeCells #[.int .i64 0] n.toNat) 3)).heap[w1.heap.size]? = some (.cells (madeCells #[.int .i64 0] n.toNat) 3 (0, 0)) := heap_alloc_new w1.drew _
  have hcu : (madeCells #[.int .i64 0] n.toNat).toList.take (List.replicate n.toNat (0 : Int)).length = ints (List.replicate n.toNat 0) := by
   rw [toList_madeCells_one]
   simp [ints]
  have hgn : w1.heap.size ∉ gs.map Prod.fst := fun hm => by
   obtain ⟨j, hj, e⟩ := List.getElem_of_mem hm
   have hj' : j < gs.length := by simpa using hj
   obtain ⟨_, cur, h3, _⟩ := hA2.out.at_ j hj' (hA2.out.len ▸ hj')
   have h := blk_lt h3
   have e' : gs[j].1 = w1.heap.size := by simpa using e
   omega
  have HO : w3.ownsRow 0 70 1 (.slice A1 (L.length + 1) cp1) (L.length + 1) (rows gs L ++ [.slice (some ⟨w1.heap.size, 0, none⟩) (List.replicate n.toNat (0 : Int)).length n.toNat]) := by
   rw [List.length_replicate]
   exact HH.out.1
  have h3 : Arrs w3 (fun k => ok k ∨ (w.heap.size ≤ k ∧ k < w3.heap.size)) (.slice A1 (L.length + 1) cp1) (gs ++ [(w1.heap.size, n.toNat)]) (L ++ [List.replicate n.toNat 0]) := arrs_new HM hg hcu hgn HO HH.out.2.2.1 HH.out.2.2.2 (fun k hk => .inl hk) (.inr ⟨by rw [hsz.out]; simp, by have := HH.out.2.1.size; rw [hsM.out] at this; omega⟩) (fun k hk hk2 => .inr ⟨by rw [hsM.out, hsz.out] at hk; simp at hk; omega, hk2⟩)
  have nB := h3.ne HB5.out (by decide) (by decide)
  have nR := h3.ne HR3.out (by decide) (by decide)
  have hs4 : w4.heap.size = w3.heap.size := by rw [HW.out]; exact size_set _ _ _
  refine ⟨.inl hok, .slice A1 (L.length + 1) cp1, gs ++ [(w1.heap.size, n.toNat)], ?_, ?_⟩
  ·rw [cells_snoc, List.length_replicate, Int.toNat_of_nonneg h0, show cellsOf L + (1 + n) = cellsOf L + (n + 1) by omega]
   exact (Below.heap_setCell _ _ _ B (Ne.symm hne)).trans ((Below.heap_setCell _ _ _ B (Ne.symm hne)).trans hB6.out)
  ·rw [size_set, size_set, hs4]
   refine h3.step' (fun k hk ho => ?_)
   have k1 : k ≠ w.heap.size := fun e => by subst e; rcases ho with ho | ho; exact nR.1 ho; exact nR.2 ho
   have k2 : k ≠ B := fun e => by subst e; rcases ho with ho | ho; exact nB.1 ho; exact nB.2 ho
   exact (Below.heap_setCell _ _ _ k k1).trans ((Below.heap_setCell _ _ _ k k1).trans (by rw [HW.out]; exact Below.heap_setCell _ _ _ k k2))
 ·have H1 : Chg ok w w1 := (Chg.of (below_alloc (Below.refl _ _) _)).trans HC.out (fun x _ h => h ▸ hok)
  have H2 : Chg ok w (w1.drew.alloc (.cells (madeCells #[.int .i64 0] n.toNat) 3)) := H1.then (below_alloc (below_drew (Below.refl _ _)) _)
  have hb := HH.out.2.1
  have H3 : Chg ok w w3 := H2.trans (T := fun k => v.ownBlock = some k) ⟨hb.os, hb.tape, hb.output, hb.size, fun k hk hn => HH.out.2.2.1.block k hk (fun e => hn e.symm)⟩ (fun k _ hk => hA2.out.vok k hk)
  have H4 : Chg ok w w4 := by rw [HW.out]; exact H3.set _ _ (fun _ => hok)
  exact (H4.set _ _ (fun h => absurd h (Nat.lt_irrefl _))).set _ _ (fun h => absurd h (Nat.lt_irrefl _))
theorem cellsOf_nonneg : ∀ L : List (List Int), 0 ≤ cellsOf L
 | [] => by simp [cellsOf]
 | l :: L => by have := cellsOf_nonneg L; simp [cellsOf]; omega
theorem cellsOf_app : ∀ (L M : List (List Int)), cellsOf (L ++ M) = cellsOf L + cellsOf M
 | [], M => by simp [cellsOf]
 | l :: L, M => by simp [cellsOf, cellsOf_app L M]; omega
theorem cellsOf_len : ∀ L : List (List Int), (L.length : Int) ≤ cellsOf L
 | [] => by simp [cellsOf]
 | l :: L => by have := cellsOf_len L; simp [cellsOf]; omega
theorem cellsOf_at (L : List (List Int)) (k : Nat) : ((L.getD k []).length : Int) ≤ cellsOf L := by
 by_cases h : k < L.length
 ·have e : L = L.take k ++ L[k] :: L.drop (k + 1) := by simp
  have e2 := congrArg cellsOf e
  rw [cellsOf_app] at e2
  have h1 := cellsOf_nonneg (L.take k)
  have h2 := cellsOf_nonneg (L.drop (k + 1))
  simp only [cellsOf] at e2
  rw [getD_lt _ _ h]
  omega
 ·have e : L.getD k [] = [] := by simp [List.getD_eq_getElem?_getD, List.getElem?_eq_none (Nat.le_of_not_lt h)]
  have := cellsOf_nonneg L
  rw [e]
  simpa
def newL (L : List (List Int)) (n : Int) : List (List Int) := if n < 0 ∨ 65536 < n then L else if 262144 < cellsOf L + n + 1 then L else L ++ [List.replicate n.toNat 0]
def newK (L : List (List Int)) (n : Int) : Int := if n < 0 ∨ 65536 < n then 0 else if 262144 < cellsOf L + n + 1 then 0 else 3
def newN (L : List (List Int)) (n : Int) : Int := if n < 0 ∨ 65536 < n then 0 else if 262144 < cellsOf L + n + 1 then 0 else L.length + 1
def newE (L : List (List Int)) (n : Int) : Int := if n < 0 ∨ 65536 < n then 4 else 0
def newR (L : List (List Int)) (n : Int) : Bool := if n < 0 ∨ 65536 < n then true else if 262144 < cellsOf L + n + 1 then false else true
def getK (L : List (List Int)) (a n k i : Int) : Int := if wrongF L a n k i = 0 then 1 else 0
def getN (L : List (List Int)) (a n k i : Int) : Int := if wrongF L a n k i = 0 then (arrAt L n).getD i.toNat 0 else 0
def setL (L : List (List Int)) (a n k i s x : Int) : List (List Int) := if wrongF L a n k i = 0 ∧ s = 1 then L.set (n - 1).toNat ((arrAt L n).set i.toNat x) else L
def lenF (L : List (List Int)) (a n : Int) : Int := if isB L a n = true then (arrAt L n).length else 0
def ext (ok : Nat → Prop) (w w' : World) (k : Nat) : Prop := ok k ∨ (w.heap.size ≤ k ∧ k < w'.heap.size)
theorem isB_iff {L : List (List Int)} {a n : Int} : isB L a n = true ↔ a = 3 ∧ 1 ≤ n ∧ n ≤ (L.length : Int) := by simp [isB]
theorem wrong_cases (L : List (List Int)) (a n k i : Int) : (isB L a n = false ∧ wrongF L a n k i = 3) ∨ (isB L a n = true ∧ (k ≠ 1 ∨ i < 0 ∨ ((arrAt L n).length : Int) ≤ i) ∧ wrongF L a n k i = 2) ∨ (isB L a n = true ∧ k = 1 ∧ 0 ≤ i ∧ i < ((arrAt L n).length : Int) ∧ wrongF L a n k i = 0) := by
 unfold wrongF
 by_cases h : isB L a n = false
 ·exact .inl ⟨h, by rw [if_pos h]⟩
 ·have h' : isB L a n = true := by simpa using h
  rw [if_neg h]
  by_cases h2 : k ≠ 1 ∨ i < 0 ∨ ((arrAt L n).length : Int) ≤ i
  ·exact .inr (.inl ⟨h', h2, by rw [if_pos h2]⟩)
  ·exact .inr (.inr ⟨h', by omega, by omega, by omega, by rw [if_neg h2]⟩)
theorem wrong_vals (L : List (List Int)) (a n k i : Int) : wrongF L a n k i = 3 ∨ wrongF L a n k i = 2 ∨ wrongF L a n k i = 0 := by
 rcases wrong_cases L a n k i with h | h | h
 ·exact .inl h.2
 ·exact .inr (.inl h.2.2)
 ·exact .inr (.inr h.2.2.2.2)
theorem rows_set : ∀ (gs : List (Nat × Nat)) (L : List (List Int)) (j : Nat) (l : List Int), l.length = (L.getD j []).length → rows gs (L.set j l) = rows gs L
 | g :: gs, xs :: L, 0, l, h => by simp at h; simp [rows, h]
 | g :: gs, xs :: L, j + 1, l, h => by simp [rows]; exact rows_set gs L j l (by simpa using h)
 | [], _, _, _, _ => by simp [rows]
 | _ :: _, [], _, _, _ => by simp
theorem cells_set : ∀ (L : List (List Int)) (j : Nat) (l : List Int), l.length = (L.getD j []).length → cellsOf (L.set j l) = cellsOf L
 | xs :: L, 0, l, h => by simp at h; simp [cellsOf, h]
 | xs :: L, j + 1, l, h => by simp [cellsOf]; exact cells_set L j l (by simpa using h)
 | [], _, _, _ => by simp
theorem ints_set (l : List Int) (i : Nat) (x : Int) : ints (l.set i x) = (ints l).set i (.int .i64 x) := by simp [ints, List.map_set]
theorem fst_inj {gs : List (Nat × Nat)} (h : (gs.map Prod.fst).Nodup) {i j : Nat} (hi : i < gs.length) (hj : j < gs.length) (e : gs[i].1 = gs[j].1) : i = j := by
 have h1 : (gs.map Prod.fst)[i]'(by simpa using hi) = (gs.map Prod.fst)[j]'(by simpa using hj) := by simpa using e
 exact (List.getElem_inj h).1 h1
theorem Arrs.set {W : World} {ok : Nat → Prop} {v : Value} {gs : List (Nat × Nat)} {L : List (List Int)} (h : Arrs W ok v gs L) {j i d q : Nat} (hj : j < L.length) (hd : gs[j]? = some (d, q)) (hi : i < (L.getD j []).length) (x : Int) : Arrs (W.setCell ⟨d, i, none⟩ (.int .i64 x)) ok v gs (L.set j ((L.getD j []).set i x)) := by
 obtain ⟨hjg, hd'⟩ := List.getElem?_eq_some_iff.1 hd
 obtain ⟨hok, cur, hb, hc⟩ := h.at_ j hjg hj
 rw [hd'] at hb
 have hdv : v.ownBlock ≠ some d := fun e => own_ne70 h.own hb (by decide) e.symm
 refine ⟨?_, h.vok, by simp [h.len], h.nd, fun m hm hm' => ?_⟩
 ·rw [rows_set _ _ _ _ (by simp), List.length_set]
  exact own_move h.own (fun k hk => Below.heap_setCell W _ _ k (fun e => hdv (by rw [hk]; exact congrArg some e)))
 ·have hm2 : m < L.length := by simpa using hm'
  by_cases e : m = j
  ·subst e
   refine ⟨by rw [hd'] at hok ⊢; exact hok, cur.setIfInBounds i (.int .i64 x), by rw [hd']; exact blk_put hb i _ rfl, ?_⟩
   rw [List.getElem_set_self]
   rw [getD_lt _ _ hj] at hi ⊢
   rw [ints_set, ← hc]
   simp only [Array.toList_setIfInBounds, List.length_set]
   rw [List.take_set]
  ·obtain ⟨ho, cur', hb', hc'⟩ := h.at_ m hm hm2
   rw [List.getElem_set_ne (Ne.symm e)]
   refine ⟨ho, cur', (Below.heap_setCell W _ _ _ (fun e2 => e ?_)).trans hb', hc'⟩
   exact fst_inj h.nd hm hjg (by rw [hd']; exact e2)
theorem HA.lens {W : World} {B : Nat} {ok : Nat → Prop} {L : List (List Int)} (h : HA W B ok L) (hc : cellsOf L ≤ 262144) : L.length ≤ 1000000 ∧ ∀ n, (arrAt L n).length ≤ 1000000 := by
 have h1 := cellsOf_len L
 exact ⟨by omega, fun n => by have := cellsOf_at L (n - 1).toNat; unfold arrAt; omega⟩
theorem lens {L : List (List Int)} (hc : cellsOf L ≤ 262144) : L.length ≤ 1000000 ∧ ∀ n, (arrAt L n).length ≤ 1000000 := by
 have h1 := cellsOf_len L
 exact ⟨by omega, fun n => by have := cellsOf_at L (n - 1).toNat; unfold arrAt; omega⟩
theorem HA.mono {W : World} {B : Nat} {ok ok' : Nat → Prop} {L : List (List Int)} (h : HA W B ok L) (hs : ∀ k, ok k → ok' k) : HA W B ok' L := by
 obtain ⟨hb, v, gs, h1, h2⟩ := h
 exact ⟨hs _ hb, v, gs, h1, h2.own, fun k hk => hs _ (h2.vok k hk), h2.len, h2.nd, fun j hj hj' => ⟨hs _ (h2.at_ j hj hj').1, (h2.at_ j hj hj').2⟩⟩
theorem HR.mono {W : World} {B : Nat} {ok ok' : Nat → Prop} {L : List (List Int)} (h : HR W B ok L) (hs : ∀ k, ok k → ok' k) : HR W B ok' L := by
 obtain ⟨hb, v, gs, h1, h2⟩ := h
 exact ⟨hs _ hb, v, gs, h1, h2.own, fun k hk => hs _ (h2.vok k hk), h2.len, h2.nd, fun j hj hj' => ⟨hs _ (h2.at_ j hj hj').1, (h2.at_ j hj hj').2⟩⟩
theorem hnew {B : Nat} {ok : Nat → Prop} {L : List (List Int)} (n : Int) {w : World} (h : HA w B ok L) (hc : cellsOf L ≤ 262144) :
  Calls Try.prog 20 #[.pointer (some ⟨B, 0, none⟩), .int .i64 n] w fun e w' => e = .returned (.tuple #[.agg #[.int .i64 (newK L n), .int .i64 (newN L n)], .int .i64 (newE L n), .bool (newR L n)]) ∧ HA w' B (ext ok w w') (newL L n) ∧ Chg ok w w' := by
 obtain ⟨hb, v, gs, h1, h2⟩ := h
 have hl := cellsOf_len L
 have hl0 := cellsOf_nonneg L
 unfold newK newN newE newR newL
 by_cases c1 : n < 0 ∨ 65536 < n
 ·simp only [if_pos c1]
  refine (new_size B n w c1).mono fun e w' hh => ?_
  obtain ⟨he, hw⟩ := hh
  exact ⟨he, HA.mono (HA.below ⟨hb, v, gs, h1, h2⟩ hw) (fun k hk => .inl hk), Chg.of hw⟩
 ·simp only [if_neg c1]
  by_cases c2 : 262144 < cellsOf L + n + 1
  ·simp only [if_pos c2]
   refine (new_full B v (cellsOf L) n w h1 (by omega) (by omega) hl0 hc c2).mono fun e w' hh => ?_
   obtain ⟨he, hB, hw⟩ := hh
   have hn := h2.ne h1 (by decide) (by decide)
   have h2' : Arrs w' ok v gs L := h2.step' (fun k hk ho => hw.block k hk (fun e => by subst e; rcases ho with ho | ho; exact hn.1 ho; exact hn.2 ho))
   exact ⟨he, HA.mono ⟨hb, v, gs, hB, h2'⟩ (fun k hk => .inl hk), hw.mono (fun x _ hx => hx ▸ hb)⟩
  ·simp only [if_neg c2]
   refine (new_is B v gs ok L n w h1 h2 hb (by omega) (by omega) hl (by omega)).mono fun e w' hh => ?_
   exact ⟨hh.1, hh.2.1, hh.2.2⟩
theorem cell_any {B : Nat} {ok : Nat → Prop} {L : List (List Int)} (a n k i : Int) {w : World} (h : HA w B ok L) (hc : cellsOf L ≤ 262144) :
  (wrongF L a n k i ≠ 0 ∧ ∀ w1, Below w.heap.size w w1 → Calls Try.prog 46 #[.pointer (some ⟨B, 0, none⟩), .agg #[.int .i64 a, .int .i64 n], .agg #[.int .i64 k, .int .i64 i]] w1 fun e w' => e = .returned (.tuple #[.pointer none, .int .i64 (wrongF L a n k i)]) ∧ Below w1.heap.size w1 w') ∨
  (wrongF L a n k i = 0 ∧ i.toNat < (arrAt L n).length ∧ (n - 1).toNat < L.length ∧ ∃ v gs d q, w.heap[B]? = some (.cells #[v, .int .i64 (cellsOf L)] 47 (0, 0)) ∧ Arrs w ok v gs L ∧ gs[(n - 1).toNat]? = some (d, q) ∧ RowAt w ok d (arrAt L n) ∧ ∀ w1, Below w.heap.size w w1 → Calls Try.prog 46 #[.pointer (some ⟨B, 0, none⟩), .agg #[.int .i64 a, .int .i64 n], .agg #[.int .i64 k, .int .i64 i]] w1 fun e w' => e = .returned (.tuple #[.pointer (some ⟨d, i.toNat, none⟩), .int .i64 0]) ∧ Below w1.heap.size w1 w') := by
 obtain ⟨hl, hls⟩ := lens hc
 obtain ⟨hb, v, gs, h1, h2⟩ := h
 rcases wrong_cases L a n k i with ⟨hi, e⟩ | ⟨hi, hr, e⟩ | ⟨hi, hk, h0, hm, e⟩
 ·rw [e]
  exact .inl ⟨by decide, fun w1 hw => cell_missing (blk_below h1 hw) (h2.step (fun k hk _ => hw.block k hk)) hl a n k i hi⟩
 ·rw [e]
  obtain ⟨rfl, hn1, hn2⟩ := isB_iff.1 hi
  obtain ⟨g, c, d, q, rfl, hg, hgs, hcell, hrow⟩ := h2.one hn1 hn2
  exact .inl ⟨by decide, fun w1 hw => cell_range1 n k i (blk_below h1 hw) hl hn1 hn2 (Nat.lt_of_lt_of_le hg hw.size) (pw_cell_below hw hcell) (hls n) hr⟩
 ·rw [e]
  obtain ⟨rfl, hn1, hn2⟩ := isB_iff.1 hi
  subst hk
  obtain ⟨g, c, d, q, rfl, hg, hgs, hcell, hrow⟩ := h2.one hn1 hn2
  refine .inr ⟨rfl, by omega, by omega, _, gs, d, q, h1, h2, hgs, hrow, fun w1 hw => ?_⟩
  exact cell_ok n i (blk_below h1 hw) hl hn1 hn2 (Nat.lt_of_lt_of_le hg hw.size) (pw_cell_below hw hcell) (hls n) h0 hm
theorem hget {B : Nat} {ok : Nat → Prop} {L : List (List Int)} (a n k i : Int) {w : World} (h : HA w B ok L) (hc : cellsOf L ≤ 262144) :
  Calls Try.prog 21 #[.pointer (some ⟨B, 0, none⟩), .agg #[.int .i64 a, .int .i64 n], .agg #[.int .i64 k, .int .i64 i]] w fun e w' => e = .returned (.tuple #[.agg #[.int .i64 (getK L a n k i), .int .i64 (getN L a n k i)], .int .i64 (wrongF L a n k i)]) ∧ Below w.heap.size w w' := by
 unfold getK getN
 rcases cell_any a n k i h hc with ⟨hne, hcell⟩ | ⟨he, hi, hj, v, gs, d, q, h1, h2, hgs, hrow, hcell⟩
 ·simp only [if_neg hne]
  have hv := wrong_vals L a n k i
  exact get_err a n k i _ (by omega) hcell
 ·simp only [if_pos he, he]
  exact get_is a n k i i.toNat _ hrow.lt (hrow.cell _ hi) hcell
theorem hset {B : Nat} {ok : Nat → Prop} {L : List (List Int)} (a n k i s x : Int) {w : World} (h : HA w B ok L) (hc : cellsOf L ≤ 262144) :
  Calls Try.prog 24 #[.pointer (some ⟨B, 0, none⟩), .agg #[.int .i64 a, .int .i64 n], .agg #[.int .i64 k, .int .i64 i], .agg #[.int .i64 s, .int .i64 x]] w fun e w' => e = .returned (.int .i64 (wrongF L a n k i)) ∧ HA w' B ok (setL L a n k i s x) ∧ Chg ok w w' := by
 unfold setL
 rcases cell_any a n k i h hc with ⟨hne, hcell⟩ | ⟨he, hi, hj, v, gs, d, q, h1, h2, hgs, hrow, hcell⟩
 ·rw [if_neg (fun hh => hne hh.1)]
  have hv := wrong_vals L a n k i
  refine (set_err a n k i s x _ (by omega) hcell).mono fun e w' hh => ?_
  exact ⟨hh.1, h.below hh.2, Chg.of hh.2⟩
 ·rw [he]
  by_cases hs : s = 1
  ·subst hs
   rw [if_pos ⟨rfl, rfl⟩]
   refine (set_is a n k i x _ hrow.lt (hrow.cell _ hi) (hrow.frozen _) hcell).mono fun e w' hh => ?_
   obtain ⟨he, w1, hb, rfl⟩ := hh
   have h2' := h2.step (W' := w1) (fun k hk _ => hb.block k hk)
   have h1' := blk_below h1 hb
   have hn := h2'.ne h1' (by decide) (by decide)
   obtain ⟨hjg, hd'⟩ := List.getElem?_eq_some_iff.1 hgs
   have hBd : B ≠ d := fun e => hn.2 (List.mem_map.2 ⟨_, List.getElem_mem hjg, by rw [hd', e]⟩)
   refine ⟨he, ⟨h.bok, v, gs, ?_, h2'.set hj hgs hi x⟩, (Chg.of hb).set _ _ (fun _ => hrow.ok)⟩
   rw [cells_set _ _ _ (by simp [arrAt])]
   exact (Below.heap_setCell w1 _ _ B hBd).trans h1'
  ·rw [if_neg (fun hh => hs hh.2)]
   refine (set_nop a n k i s x hs hcell).mono fun e w' hh => ?_
   exact ⟨hh.1, h.below hh.2, Chg.of hh.2⟩
theorem hlen {B : Nat} {ok : Nat → Prop} {L : List (List Int)} (a n : Int) {w : World} (h : HA w B ok L) (hc : cellsOf L ≤ 262144) :
  Calls Try.prog 22 #[.pointer (some ⟨B, 0, none⟩), .agg #[.int .i64 a, .int .i64 n]] w fun e w' => e = .returned (.int .i64 (lenF L a n)) ∧ Below w.heap.size w w' := by
 obtain ⟨hl, hls⟩ := lens hc
 obtain ⟨hb, v, gs, h1, h2⟩ := h
 unfold lenF
 by_cases hi : isB L a n = true
 ·rw [if_pos hi]
  obtain ⟨rfl, hn1, hn2⟩ := isB_iff.1 hi
  obtain ⟨g, c, d, q, rfl, hg, hgs, hcell, hrow⟩ := h2.one hn1 hn2
  exact len_of 3 n _ q true (hls n) (fun w1 hw => array_is n (blk_below h1 hw) hl hn1 hn2 (Nat.lt_of_lt_of_le hg hw.size) (pw_cell_below hw hcell))
 ·rw [if_neg hi]
  exact len_of (m := 0) a n none 0 false (by decide) (fun w1 hw => array_no (blk_below h1 hw) (h2.step (fun k hk _ => hw.block k hk)) hl a n (by simpa using hi))
attribute [local go_sem] max2_int min2_int max_two min_two max_three min_three max_four min_four
def value_truth.f (a0 : Bool) : Option (Int × Int) := if a0 = true then (some (2, 1)) else (some (2, 0))
set_option maxHeartbeats 8000000 in
set_option maxRecDepth 100000 in
theorem value_truth.calls (a0 : Bool) (r1 : Int) (r2 : Int) (w : World) (h : value_truth.f a0 = some (r1, r2)) :
  Calls Try.prog 34 #[.bool a0] w fun e w' => e = .returned (.agg #[.int .i64 r1, .int .i64 r2]) ∧ Below w.heap.size w w' := by
 have hu23 := Try.underlying23
 have HB := Aside0.mk (Below.refl w.heap.size w)
 have H : (if a0 = true then (some (2, 1)) else (some (2, 0))) = some (r1, r2) := h
 clear h
 by_cases c2 : a0 = true
 ·subst c2
  have H1 : (some (2, 1)) = some (r1, r2) := by rw [if_pos rfl] at H; exact H
  clear H
  have H := H1
  clear H1
  simp only [Option.some.injEq, Prod.mk.injEq] at H
  obtain ⟨rfl, rfl⟩ := H
  go_enter Try.func34, Try.ntmps34
  go_wp2_with (first | ((with_reducible refine gate_dst (N := 2) rfl ?_); refine box_event ?hg (N := 2) ?hd (cs := #[.int .i64 0, .int .i64 0]) (t := 23) ?hr ?_; (case hd => rfl); (case hg => rfl); (case hr => first | (go_simp; done) | (go_simp; rfl)); intro gb101 hg w3 hbox hb; have n0_ := Aside0.mk (below_step (by repeat (first | (with_reducible first | exact HB.out | apply below_alloc | apply pw_below_drewN | apply below_drew1) | exact HB.out)) hb); have n1_ := Aside0.mk (hbox); have n2_ := Aside0.mk ((by rw [hg]; exact (below_size (by repeat (first | (with_reducible first | exact HB.out | apply below_alloc | apply pw_below_drewN | apply below_drew1) | exact HB.out))) : w.heap.size ≤ gb101)); have n3_ := Aside0.mk ((by rw [hg]; exact (below_size (by repeat (first | (with_reducible first | exact HB.out | apply below_alloc | apply pw_below_drewN | apply below_drew1) | exact HB.out))) : w.heap.size ≤ gb101)); clear HB; have HB := n0_; have BK101 := n1_; have GW101 := n2_; have GE101 := n3_; clear n0_ n1_ n2_ n3_; clear hb hbox hg; have hcz4_0 : w3.cell? ⟨gb101, 0, none⟩ = some (.int .i64 0) := (blk_cell BK101.out 0).trans rfl; have hcz4_1 : w3.cell? ⟨gb101, 1, none⟩ = some (.int .i64 0) := (blk_cell BK101.out 1).trans rfl; have hfz4_0 := blk_frozen BK101.out 0; have hfz4_1 := blk_frozen BK101.out 1))
  refine bodyPost_ret (results_cell_row rfl _ _ gb101 23 #[.int .i64 2, .int .i64 1] (0, 0) _ rfl (by (with_reducible repeat (first | refine blk_drewN ?_ _ | refine blk_drew ?_ | refine blk_alloc ?_ _)); refine blk_put (cs := #[.int .i64 2, .int .i64 0]) ?_ 1 _ rfl; (with_reducible repeat (first | refine blk_drewN ?_ _ | refine blk_drew ?_ | refine blk_alloc ?_ _)); refine blk_put (cs := #[.int .i64 0, .int .i64 0]) ?_ 0 _ rfl; (with_reducible repeat (first | refine blk_drewN ?_ _ | refine blk_drew ?_ | refine blk_alloc ?_ _)); exact BK101.out) Try.underlying23 rfl (by kernel_rfl)) rfl ?_
  exact ⟨by first | rfl | (simp [errW_none, errW_some] <;> rfl) | (simp [*, errW_none, errW_some] <;> rfl), by repeat (first | (with_reducible first | exact HB.out | apply below_alloc | apply pw_below_drewN | apply below_drew1 | refine below_set ?_ GE101.out) | exact HB.out)⟩
 ·replace c2 := Bool.eq_false_iff.mpr c2
  subst c2
  have H1 : (some (2, 0)) = some (r1, r2) := by rw [if_neg (show ¬ (false = true) by decide)] at H; exact H
  clear H
  have H := H1
  clear H1
  simp only [Option.some.injEq, Prod.mk.injEq] at H
  obtain ⟨rfl, rfl⟩ := H
  go_enter Try.func34, Try.ntmps34
  go_wp2_with (first | ((with_reducible refine gate_dst (N := 2) rfl ?_); refine box_event ?hg (N := 2) ?hd (cs := #[.int .i64 0, .int .i64 0]) (t := 23) ?hr ?_; (case hd => rfl); (case hg => rfl); (case hr => first | (go_simp; done) | (go_simp; rfl)); intro gb101 hg w5 hbox hb; have n0_ := Aside0.mk (below_step (by repeat (first | (with_reducible first | exact HB.out | apply below_alloc | apply pw_below_drewN | apply below_drew1) | exact HB.out)) hb); have n1_ := Aside0.mk (hbox); have n2_ := Aside0.mk ((by rw [hg]; exact (below_size (by repeat (first | (with_reducible first | exact HB.out | apply below_alloc | apply pw_below_drewN | apply below_drew1) | exact HB.out))) : w.heap.size ≤ gb101)); have n3_ := Aside0.mk ((by rw [hg]; exact (below_size (by repeat (first | (with_reducible first | exact HB.out | apply below_alloc | apply pw_below_drewN | apply below_drew1) | exact HB.out))) : w.heap.size ≤ gb101)); clear HB; have HB := n0_; have BK101 := n1_; have GW101 := n2_; have GE101 := n3_; clear n0_ n1_ n2_ n3_; clear hb hbox hg; have hcz6_0 : w5.cell? ⟨gb101, 0, none⟩ = some (.int .i64 0) := (blk_cell BK101.out 0).trans rfl; have hcz6_1 : w5.cell? ⟨gb101, 1, none⟩ = some (.int .i64 0) := (blk_cell BK101.out 1).trans rfl; have hfz6_0 := blk_frozen BK101.out 0; have hfz6_1 := blk_frozen BK101.out 1))
  refine bodyPost_ret (results_cell_row rfl _ _ gb101 23 #[.int .i64 2, .int .i64 0] (0, 0) _ rfl (by (with_reducible repeat (first | refine blk_drewN ?_ _ | refine blk_drew ?_ | refine blk_alloc ?_ _)); refine blk_put (cs := #[.int .i64 2, .int .i64 0]) ?_ 1 _ rfl; (with_reducible repeat (first | refine blk_drewN ?_ _ | refine blk_drew ?_ | refine blk_alloc ?_ _)); refine blk_put (cs := #[.int .i64 0, .int .i64 0]) ?_ 0 _ rfl; (with_reducible repeat (first | refine blk_drewN ?_ _ | refine blk_drew ?_ | refine blk_alloc ?_ _)); exact BK101.out) Try.underlying23 rfl (by kernel_rfl)) rfl ?_
  exact ⟨by first | rfl | (simp [errW_none, errW_some] <;> rfl) | (simp [*, errW_none, errW_some] <;> rfl), by repeat (first | (with_reducible first | exact HB.out | apply below_alloc | apply pw_below_drewN | apply below_drew1 | refine below_set ?_ GE101.out) | exact HB.out)⟩
end Go.Proofs.Ytkhlfdcjgooogaa.P
