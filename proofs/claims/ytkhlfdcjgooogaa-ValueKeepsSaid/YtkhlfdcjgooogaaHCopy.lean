/- slices.Clone at []int: a new array with the same numbers. Heap.Arrays: new arrays with the same numbers. Heap.Arrays and Heap.Copy of a heap. -/
import Derived.Test.YtkhlfdcjgooogaaHeapG
import Derived.Laws.Cover3
import Derived.Maps.AppendAt
import Derived.Test.YtkhlfdcjgooogaaHeapH
import Derived.Test.YtkhlfdcjgooogaaHeapD
namespace Go.Proofs.Ytkhlfdcjgooogaa.P
open Go.RowKit Go.Proofs.YtkhlfdcjgooogaaW.PrintWords Go.Proofs.YtkhlfdcjgooogaaW.PrintLast Go.Proofs.YtkhlfdcjgooogaaW.PrintMore
set_option linter.unusedVariables false
set_option linter.unusedSimpArgs false
theorem info3 : (Try.prog.info? 3).map (fun i => (i.zero, i.size, i.bytes)) = some (some (.int .i64 0), 1, 8) := by kernel_rfl
def Stp (p : Prop) : Prop := p
theorem Stp.out {p : Prop} (h : Stp p) : p := h
/-- A new array at block d. -/
def NewRow (w w' : World) (l : List Int) (e : Ending) : Prop := ∃ d q cu, e = .returned (.slice (some ⟨d, 0, none⟩) l.length q) ∧ w.heap.size ≤ d ∧ w'.heap[d]? = some (.cells cu 3 (0, 0)) ∧ cu.toList.take l.length = ints l
set_option maxRecDepth 100000 in
set_option maxHeartbeats 2000000 in
theorem clone_any (d q : Nat) (l : List Int) (w : World) (hlt : d < w.heap.size) (hc : ∀ i, i < l.length → w.cell? ⟨d, i, none⟩ = some (.int .i64 (l.getD i 0))) (hl : l.length ≤ 1000000) :
    Calls Try.prog 44 #[.slice (some ⟨d, 0, none⟩) l.length q] w fun e w' => NewRow w w' l e ∧ Below w.heap.size w w' := by
  have he : ∀ W : World, (binOp .eql 70 (.slice (some ⟨d, 0, none⟩) l.length q) (.slice none 0 0)).run Try.prog W = .ok (.bool false) W := fun W => by
    simp only [binOp]
    simp [run_equal_slice_nil W 70 3 _ _ _ Try.underlying70]
  have hb0 : Below w.heap.size w (w.alloc (.cells #[] 3)) := below_alloc (Below.refl _ _) _
  have hnews : ∀ j u, (ints l)[j]? = some u → (w.alloc (.cells #[] 3)).cell? ((⟨d, 0, none⟩ : Addr).add j) = some u := fun j u hj => by
    have hjl : j < l.length := by
      have := (List.getElem?_eq_some_iff.1 hj).1
      simpa [ints] using this
    have h1 := hc j hjl
    rw [getD_lt _ _ hjl] at h1
    have h2 : u = .int .i64 l[j] := by
      simp [ints, hjl] at hj
      exact hj.symm
    rw [h2]
    have e : (⟨d, 0, none⟩ : Addr).add j = ⟨d, j, none⟩ := by unfold Addr.add; simp; omega
    rw [e]
    exact pw_cell_below hb0 h1
  have hown : (w.alloc (.cells #[] 3)).ownsRow w.heap.size 3 1 (.slice (some ⟨w.heap.size, 0, none⟩) 0 0) 0 [] := ⟨rfl, .inr ⟨w.heap.size, 0, #[], rfl, Nat.le_refl _, heap_alloc_new w _, Nat.le_refl _, by simp [maxLen], rfl, rfl⟩⟩
  obtain ⟨i0, hi, hz0, hz1, hz2⟩ := info_parts info3
  have HN := Lib.hid hnews
  have HO := Lib.hid hown
  clear hc hnews hown
  go_enter Try.func44, Try.ntmps44
  go_wp2_with (((with_reducible refine gate_builtin (b := .append) (xs := #[.tmp 5, .tmp 6]) rfl ?_); at_builtin; refine Stp.out ?_))
  unfold Stp
  refine wpList_append_own_at _ rfl (.tmp 5) (.tmp 6) 70 rfl w.heap.size 3 i0 (.int .i64 0) 1 8 Try.underlying70 hi hz0 hz1 hz2 rfl (by decide) (.slice (some ⟨w.heap.size, 0, none⟩) 0 0) 0 [] rfl HO.out ⟨d, 0, none⟩ l.length q (ints l) rfl (by simp [ints]) HN.out (by simp [ints, Value.oneCell']) (by simp only [maxLen]; omega) (by omega) (by simp) ?_
  intro v1 w1 hown1 hgr hnil hat
  have HH := Lib.hid (And.intro hown1 (And.intro hgr (And.intro hnil hat)))
  clear hown1 hgr hnil hat
  go_wp2_with fail
  go_ret
  obtain ⟨h1, h2, h3, h4⟩ := HH.out
  refine ⟨?_, ?_⟩
  · obtain ⟨_, ho⟩ := h1
    rcases ho with ⟨e, _⟩ | ⟨g, cap, cur, e, hb, hh, _, _, _, ht⟩
    · exact absurd (h3.1 e).1 (by simp)
    · refine ⟨g, cap, cur, ?_, hb, hh, by simpa using ht⟩
      show Ending.returned v1 = _
      rw [e]
      simp
  · refine ⟨h2.os, h2.tape, h2.output, Nat.le_trans (by simp) h2.size, fun k hk => ?_⟩
    exact (h2.block k (by simp; omega) (by simp [Value.ownBlock]; omega)).trans (hb0.block k hk)
end Go.Proofs.Ytkhlfdcjgooogaa.P
namespace Go.Proofs.Ytkhlfdcjgooogaa.P
open Go.RowKit Go.Proofs.YtkhlfdcjgooogaaW.PrintWords Go.Proofs.YtkhlfdcjgooogaaW.PrintLast Go.Proofs.YtkhlfdcjgooogaaW.PrintMore
set_option linter.unusedVariables false
set_option linter.unusedSimpArgs false
theorem info70 : (Try.prog.info? 70).map (fun i => (i.zero, i.size, i.bytes)) = some (some (.slice none 0 0), 1, 24) := by kernel_rfl
/-- Arrays that lie in memory made since w. -/
def Made (w w' : World) (v : Value) (L : List (List Int)) : Prop := ∃ gs, Arrs w' (fun k => w.heap.size ≤ k ∧ k < w'.heap.size) v gs L
theorem Made.nil (w w' : World) : Made w w' (.slice none 0 0) [] := ⟨[], ⟨by simp [rows], .inl ⟨rfl, rfl⟩⟩, fun k hk => by simp [Value.ownBlock] at hk, rfl, by simp, fun j hj => by simp at hj⟩
theorem Made.below {w w1 w2 : World} {v : Value} {L : List (List Int)} (h : Made w w1 v L) (hb : Below w1.heap.size w1 w2) : Made w w2 v L := by
  obtain ⟨gs, h⟩ := h
  have h' := h.step (W' := w2) (fun k hk _ => hb.block k hk)
  exact ⟨gs, h'.own, fun k hk => ⟨(h'.vok k hk).1, Nat.lt_of_lt_of_le (h'.vok k hk).2 hb.size⟩, h'.len, h'.nd, fun j hj hj' => ⟨⟨(h'.at_ j hj hj').1.1, Nat.lt_of_lt_of_le (h'.at_ j hj hj').1.2 hb.size⟩, (h'.at_ j hj hj').2⟩⟩
/-- The relation of the loop. -/
def ArrRel (w : World) (L : List (List Int)) (v i : Value) (wr : World) : Prop := ∃ k : Nat, k ≤ L.length ∧ i = .int .i64 k ∧ Made w wr v (L.take k) ∧ Below w.heap.size w wr
/-- What Arrays leaves. -/
def ArrPost (w : World) (L : List (List Int)) (e : Ending) (w' : World) : Prop := ∃ v, e = .returned v ∧ Made w w' v L ∧ Below w.heap.size w w'
theorem below_grow {n : Nat} {w W w3 : World} {row : Option Nat} (hb : Below n w W) (hgr : W.grownBy w3 row) (h : ∀ k, row = some k → n ≤ k) (hn : n ≤ W.heap.size) : Below n w w3 :=
  ⟨hgr.os.trans hb.os, hgr.tape.trans hb.tape, hgr.output.trans hb.output, Nat.le_trans hb.size hgr.size, fun k hk => (hgr.block k (Nat.lt_of_lt_of_le hk hn) (fun e => by have := h k e.symm; omega)).trans (hb.block k hk)⟩
theorem made_snoc {w wr w1 M w3 : World} {v v1 : Value} {L : List (List Int)} {xs : List Int} {d q : Nat} {cu cs : Array Value} (hm : Made w wr v L) (hw : w.heap.size ≤ wr.heap.size) (hb : Below wr.heap.size wr w1) (hd : wr.heap.size ≤ d) (hg : w1.heap[d]? = some (.cells cu 3 (0, 0))) (hcu : cu.toList.take xs.length = ints xs)
    (hM : M = w1.alloc (.cells cs 70)) (hown : w3.ownsRow 0 70 1 v1 (L.length + 1) (rows hm.choose L ++ [.slice (some ⟨d, 0, none⟩) xs.length q])) (hgr : M.grownBy w3 v.ownBlock) (hat : v1.ownBlock = v.ownBlock ∨ v1.ownBlock = some M.heap.size) : Made w w3 v1 (L ++ [xs]) := by
  have hA := hm.choose_spec
  subst hM
  have hb2 : Below wr.heap.size wr (w1.alloc (.cells cs 70)) := below_alloc hb _
  have hA2 := hA.step (W' := w1.alloc (.cells cs 70)) (fun k hk _ => hb2.block k hk)
  refine ⟨_, arrs_new (ok' := fun k => w.heap.size ≤ k ∧ k < w3.heap.size) hA2 (blk_alloc hg _) hcu (fun hmem => ?_) hown hgr (hat.elim .inl (fun h => .inr ⟨_, h, Nat.le_refl _⟩)) (fun k hk => ⟨hk.1, Nat.lt_of_lt_of_le hk.2 (Nat.le_trans hb2.size hgr.size)⟩) ⟨Nat.le_trans hw hd, Nat.lt_of_lt_of_le (blk_lt (blk_alloc hg (.cells cs 70))) hgr.size⟩ (fun k hk hk2 => ⟨Nat.le_trans hw (Nat.le_trans hb2.size hk), hk2⟩)⟩
  obtain ⟨j, hj, e⟩ := List.getElem_of_mem hmem
  have hj' : j < hm.choose.length := by simpa using hj
  have h3 := (hA.at_ j hj' (hA.len ▸ hj')).1.2
  have e' : (hm.choose)[j].1 = d := by simpa using e
  rw [e'] at h3
  omega
set_option maxRecDepth 100000 in
set_option maxHeartbeats 4000000 in
theorem arrays_some {B g c : Nat} {L : List (List Int)} {x : Value} {ds qs : Nat → Nat} {w : World} (hB : w.heap[B]? = some (.cells #[.slice (some ⟨g, 0, none⟩) L.length c, x] 47 (0, 0))) (hl : L.length ≤ 1000000) (hls : ∀ j, (L.getD j []).length ≤ 1000000)
    (hr : ∀ j, j < L.length → w.cell? ⟨g, j, none⟩ = some (.slice (some ⟨ds j, 0, none⟩) (L.getD j []).length (qs j)) ∧ ds j < w.heap.size ∧ ∀ i, i < (L.getD j []).length → w.cell? ⟨ds j, i, none⟩ = some (.int .i64 ((L.getD j []).getD i 0))) :
    Calls Try.prog 19 #[.pointer (some ⟨B, 0, none⟩)] w (ArrPost w L) := by
  have cB := (blk_cell hB 0).trans rfl
  have HR := Lib.hid hr
  obtain ⟨i0, hi, hz0, hz1, hz2⟩ := info_parts info70
  clear hB hr
  go_enter Try.func19, Try.ntmps19
  go_wp2_with fail
  go_loopw [3, 11] (fun v i wr => ArrRel w L v i wr) (fun _ i _ => L.length - (intOf i).toNat)
  case atStart => exact ⟨0, Nat.zero_le _, rfl, Made.nil _ _, Below.refl _ _⟩
  case round =>
    obtain ⟨k, hk, rfl, hm, hb⟩ := hrel
    by_cases hlt : k < L.length
    · obtain ⟨l, hle⟩ : ∃ l, l = L.getD k [] := ⟨_, rfl⟩
      obtain ⟨d, hde⟩ : ∃ d, d = ds k := ⟨_, rfl⟩
      obtain ⟨q, hqe⟩ : ∃ q, q = qs k := ⟨_, rfl⟩
      obtain ⟨h1, h2, h3⟩ := HR.out k hlt
      have h4 := hls k
      rw [← hle] at h1 h3 h4
      rw [← hde] at h1 h2 h3
      rw [← hqe] at h1
      have hcell := pw_cell_below hb h1
      have H3 : Hid (∀ i, i < l.length → wr.cell? ⟨d, i, none⟩ = some (.int .i64 (l.getD i 0))) := Lib.hid (fun i hi => pw_cell_below hb (h3 i hi))
      have hdl : d < wr.heap.size := Nat.lt_of_lt_of_le h2 hb.size
      have HT : Hid (L.take (k + 1) = L.take k ++ [l]) := Lib.hid (by rw [List.take_succ_eq_append_getElem hlt, hle, getD_lt _ _ hlt])
      have HM := Lib.hid hm
      have HB := Lib.hid hb
      have hglt := World.block_lt_of_cell? wr _ hcell
      clear h1 h2 h3 hle hde hqe hm hb
      go_wp2_with fail
      refine (clone_any d q l wr hdl H3.out h4).mono ?_
      rintro e w1 ⟨hnew, hb1⟩
      obtain ⟨d', q', cu, rfl, hd1, hg1, hcu⟩ := hnew
      have HB1 := Lib.hid hb1
      have HG1 := Lib.hid (And.intro hd1 (And.intro hg1 hcu))
      clear hb1 hd1 hg1 hcu
      go_wp2_with (((with_reducible refine gate_builtin (b := .append) (xs := #[.tmp 15, .tmp 18]) rfl ?_); at_builtin; refine Stp.out ?_))
      unfold Stp
      have hle0 := HB.out.size
      have hA := HM.out.choose_spec.step (W' := w1.alloc (.cells #[.slice (some ⟨d', 0, none⟩) l.length q'] 70)) (fun k hk _ => (below_alloc HB1.out _).block k hk)
      have hlen : (L.take k).length ≤ 1000000 := by rw [List.length_take]; omega
      refine wpList_append_own_at _ rfl (.tmp 15) (.tmp 18) 40 rfl 0 70 i0 (.slice none 0 0) 1 24 Try.underlying40 hi hz0 hz1 hz2 rfl (by decide) u3 (L.take k).length (rows HM.out.choose (L.take k)) rfl hA.own ⟨w1.heap.size, 0, none⟩ 1 1 [.slice (some ⟨d', 0, none⟩) l.length q'] rfl rfl ?_ (by simp [Value.oneCell']) (by simp only [maxLen]; omega) (by omega) (Nat.zero_le _) ?_
      · simpa using World.news_of_block (cs := #[.slice (some ⟨d', 0, none⟩) l.length q']) (t := 70) (fr := (0, 0)) (heap_alloc_new w1 _)
      intro v1 w3 hown hgr hnil hat
      have HS : Hid (Made w w3 v1 (L.take k ++ [l])) := Lib.hid (made_snoc HM.out hle0 HB1.out HG1.out.1 HG1.out.2.1 HG1.out.2.2 rfl hown hgr hat)
      have HB3 : Hid (Below w.heap.size w w3) := Lib.hid (below_grow (HB.out.trans ((below_alloc HB1.out _).mono hle0)) hgr (fun k hk => (HM.out.choose_spec.vok k hk).1) (by have := HB1.out.size; simp; omega))
      clear hown hgr hnil hat hA hlen
      go_wp2_with fail
      go_roundw
      case rel => exact ⟨k + 1, by omega, by go_num, by rw [HT.out]; exact HS.out, HB3.out⟩
      case measure => simp [intOf]; omega
    · have hkl : k = L.length := by omega
      have HT : Hid (L.take k = L) := Lib.hid (List.take_of_length_le (by omega))
      have HM := Lib.hid hm
      have HB := Lib.hid hb
      clear hkl hm hb
      go_wp2_with fail
      go_ret
      exact ⟨_, rfl, by rw [← HT.out]; exact HM.out, HB.out⟩
end Go.Proofs.Ytkhlfdcjgooogaa.P
namespace Go.Proofs.Ytkhlfdcjgooogaa.P
open Go.RowKit Go.Proofs.YtkhlfdcjgooogaaW.PrintWords Go.Proofs.YtkhlfdcjgooogaaW.PrintLast Go.Proofs.YtkhlfdcjgooogaaW.PrintMore
set_option linter.unusedVariables false
set_option linter.unusedSimpArgs false
set_option maxRecDepth 100000 in
set_option maxHeartbeats 4000000 in
theorem arrays_none {B c : Nat} {A : Option Addr} {x : Value} {w : World} (hB : w.heap[B]? = some (.cells #[.slice A 0 c, x] 47 (0, 0))) : Calls Try.prog 19 #[.pointer (some ⟨B, 0, none⟩)] w (ArrPost w []) := by
  have cB := (blk_cell hB 0).trans rfl
  clear hB
  go_enter Try.func19, Try.ntmps19
  go_wp2_with fail
  go_loopw [3, 11] (fun v i wr => v = .slice none 0 0 ∧ i = .int .i64 0 ∧ wr = w) (fun _ _ _ => 0)
  case atStart => exact ⟨rfl, rfl, rfl⟩
  case round =>
    obtain ⟨rfl, rfl, rfl⟩ := hrel
    go_wp2_with fail
    go_ret
    exact ⟨_, rfl, Made.nil _ _, Below.refl _ _⟩
theorem harrays {B : Nat} {ok : Nat → Prop} {L : List (List Int)} {w : World} (h : HA w B ok L) (hc : cellsOf L ≤ 262144) : Calls Try.prog 19 #[.pointer (some ⟨B, 0, none⟩)] w (ArrPost w L) := by
  obtain ⟨hb, v, gs, h1, h2⟩ := h
  have hl := cellsOf_len L
  obtain ⟨A, c, rfl, hr⟩ := h2.get
  rcases hr with h0 | ⟨g, rfl, hg, hr⟩
  · have e : L = [] := List.length_eq_zero_iff.1 h0
    subst e
    exact arrays_none h1
  · refine arrays_some (ds := fun j => (gs.getD j (0, 0)).1) (qs := fun j => (gs.getD j (0, 0)).2) h1 (by omega) (fun j => by have := cellsOf_at L j; omega) (fun j hj => ?_)
    have hj' : j < gs.length := h2.len ▸ hj
    obtain ⟨_, cur, hb2, hc2⟩ := h2.at_ j hj' hj
    rw [getD_lt _ _ hj, getD_lt _ _ hj']
    exact ⟨hr j hj' hj, blk_lt hb2, fun i hi => row_cell hb2 hc2 hi⟩
theorem frozen_drew {W : World} {a : Addr} {b : Bool} (h : W.frozen? a = b) : W.drew.frozen? a = b := h
/-- What Copy leaves. -/
def CopyPost (w : World) (L : List (List Int)) (e : Ending) (w' : World) : Prop := ∃ B' okc, e = .returned (.pointer (some ⟨B', 0, none⟩)) ∧ HA w' B' okc L ∧ (∀ k, okc k → w.heap.size ≤ k ∧ k < w'.heap.size) ∧ Below w.heap.size w w'
theorem copy_made {w w1 W w' : World} {v : Value} {L : List (List Int)} (hm : Made w w1 v L) (hb : Below w.heap.size w w1) (hW : W = w1.alloc (.cells #[v, .int .i64 0] 47)) (hw : w' = W.drew.setCell ⟨w1.heap.size, 1, none⟩ (.int .i64 (cellsOf L))) :
    HA w' w1.heap.size (fun k => w.heap.size ≤ k ∧ k < w'.heap.size) L ∧ Below w.heap.size w w' := by
  obtain ⟨gs, hA⟩ := hm
  have hb2 : Below w.heap.size w w' := by
    rw [hw, hW]
    exact (below_drew (below_alloc hb _)).setCell hb.size _
  have hsz : w'.heap.size = w1.heap.size + 1 := by rw [hw, size_set, hW]; simp
  have hblk : w'.heap[w1.heap.size]? = some (.cells #[v, .int .i64 (cellsOf L)] 47 (0, 0)) := by
    rw [hw, hW]
    exact blk_put (heap_alloc_new w1 _) 1 _ rfl
  have hA2 := hA.step (W' := w') (fun k hk _ => by
    rw [hw, hW]
    exact (Below.heap_setCell _ _ _ k (Nat.ne_of_lt hk)).trans ((below_drew (below_alloc (Below.refl _ _) _)).block k hk))
  refine ⟨⟨⟨hb.size, by omega⟩, v, gs, hblk, hA2.own, fun k hk => ⟨(hA2.vok k hk).1, by have := (hA2.vok k hk).2; omega⟩, hA2.len, hA2.nd, fun j hj hj' => ⟨⟨(hA2.at_ j hj hj').1.1, by have := (hA2.at_ j hj hj').1.2; omega⟩, (hA2.at_ j hj hj').2⟩⟩, hb2⟩
set_option maxRecDepth 100000 in
set_option maxHeartbeats 4000000 in
theorem hcopy {B : Nat} {ok : Nat → Prop} {L : List (List Int)} {w : World} (h : HA w B ok L) (hc : cellsOf L ≤ 262144) : Calls Try.prog 23 #[.pointer (some ⟨B, 0, none⟩)] w (CopyPost w L) := by
  have HL := Lib.hid (harrays h hc)
  obtain ⟨hb, v, gs, h1, h2⟩ := h
  have hlt := blk_lt h1
  have HC := Lib.hid ((blk_cell h1 1).trans rfl : w.cell? ⟨B, 1, none⟩ = some (.int .i64 (cellsOf L)))
  clear h1 h2 hb
  go_enter Try.func23, Try.ntmps23
  go_wp2_with fail
  refine HL.out.mono ?_
  rintro e w1 ⟨v1, rfl, hm, hb1⟩
  obtain ⟨A1, c1, rfl⟩ := own_slice hm.choose_spec.own
  have HM := Lib.hid hm
  have HB1 := Lib.hid hb1
  have HC1 := Lib.hid (pw_cell_below hb1 HC.out)
  clear hm hb1
  go_wp2_with fail
  refine start_ (n := 8) (S := fun w' => True) (ds := []) #[false, false, false, false, false, false, false, false] (by kernel_rfl) rfl rfl trivial (fun hHeld => ?_)
  refine pure_ (i := 0) (N := some 8) (v := ?_) (a' := ?_) #[true, false, false, false, false, false, false, false] rfl rfl (by kernel_rfl) (fun _ _ _ h => h) (Or.inl ⟨by rfl, ?_⟩) ?_ ?_
  rotate_left
  · intro w'
    go_simp
    with_reducible rfl
  rotate_left
  · simp only [Act.put, List.setIfInBounds_toArray, List.set_cons_zero, List.set_cons_succ, i64_w, i32_w]
    rfl
  refine pure_ (i := 1) (N := some 9) (v := ?_) (a' := ?_) #[true, true, false, false, false, false, false, false] rfl rfl (by kernel_rfl) (fun _ _ _ h => h) (Or.inl ⟨by rfl, ?_⟩) ?_ ?_
  rotate_left
  · intro w'
    go_simp
    with_reducible rfl
  rotate_left
  · simp only [Act.put, List.setIfInBounds_toArray, List.set_cons_zero, List.set_cons_succ, i64_w, i32_w]
    rfl
  refine pure_ (i := 2) (N := some 10) (v := ?_) (a' := ?_) #[true, true, true, false, false, false, false, false] rfl rfl (by kernel_rfl) (fun _ _ _ h => h) (Or.inl ⟨by rfl, ?_⟩) ?_ ?_
  rotate_left
  · intro w'
    go_simp
    with_reducible rfl
  rotate_left
  · simp only [Act.put, List.setIfInBounds_toArray, List.set_cons_zero, List.set_cons_succ, i64_w, i32_w]
    rfl
  refine pure_ (i := 3) (N := some 11) (v := ?_) (a' := ?_) #[true, true, true, true, false, false, false, false] rfl rfl (by kernel_rfl) (fun _ _ _ h => h) (Or.inl ⟨by rfl, ?_⟩) ?_ ?_
  rotate_left
  · intro w'
    go_simp
    with_reducible rfl
  rotate_left
  · simp only [Act.put, List.setIfInBounds_toArray, List.set_cons_zero, List.set_cons_succ, i64_w, i32_w]
    rfl
  refine pure_ (i := 4) (N := some 12) (v := ?_) (a' := ?_) #[true, true, true, true, true, false, false, false] rfl rfl (by kernel_rfl) (fun _ _ _ h => h) (Or.inl ⟨by rfl, ?_⟩) ?_ ?_
  rotate_left
  · intro w'
    go_simp
    with_reducible rfl
  rotate_left
  · simp only [Act.put, List.setIfInBounds_toArray, List.set_cons_zero, List.set_cons_succ, i64_w, i32_w]
    rfl
  refine pure_ (i := 5) (N := some 13) (v := ?_) (a' := ?_) #[true, true, true, true, true, true, false, false] rfl rfl (by kernel_rfl) (fun _ _ _ h => h) (Or.inl ⟨by rfl, ?_⟩) ?_ ?_
  rotate_left
  · intro w'
    go_simp
    with_reducible rfl
  rotate_left
  · simp only [Act.put, List.setIfInBounds_toArray, List.set_cons_zero, List.set_cons_succ, i64_w, i32_w]
    rfl
  refine one_ (i := 6) (N := some 14) #[true, true, true, true, true, true, true, false] rfl rfl (by kernel_rfl) (by decide) (fun K hK => ?_)
  refine goes_ Try.func43 (by kernel_rfl) rfl #[.pointer (some ⟨B, 1, none⟩)] (by rfl) rfl rfl (by simp only [List.map_toArray, List.map_cons, List.map_nil]; rfl) ?_
  with_reducible refine (load_any B (cellsOf L) _ (cell_drew (cell_old HC1.out))).mono ?_
  rintro e w2 ⟨rfl, rfl⟩
  refine ⟨_, rfl, ?_⟩
  refine hK.out _ _ trivial (fun hHeld => ?_)
  clear hK K
  refine norm_ (a' := ?_) ?_ ?_
  rotate_left
  · show Act.put _ (some 14) _ = _
    simp only [Act.put, List.setIfInBounds_toArray, List.set_cons_zero, List.set_cons_succ, i64_w, i32_w]
    rfl
  refine one_ (i := 7) (N := some 15) #[true, true, true, true, true, true, true, true] rfl rfl (by kernel_rfl) (by decide) (fun K hK => ?_)
  refine goes_ Try.func48 (by kernel_rfl) rfl #[.pointer (some ⟨w1.heap.size, 1, none⟩), .int .i64 (cellsOf L)] (by rfl) rfl rfl (by simp only [List.map_toArray, List.map_cons, List.map_nil]; rfl) ?_
  with_reducible refine (store_any w1.heap.size (.int .i64 0) (cellsOf L) _ (cell_drew (cell_new rfl rfl)) (frozen_drew (blk_frozen (heap_alloc_new w1 _) 1))).mono ?_
  rintro e w3 ⟨rfl, hw3⟩
  refine ⟨_, rfl, ?_⟩
  have HW3 := Lib.hid hw3
  clear hw3
  refine hK.out _ _ trivial (fun hHeld => ?_)
  clear hK K
  refine norm_ (a' := ?_) ?_ ?_
  rotate_left
  · show Act.put _ (some 15) _ = _
    simp only [Act.put, List.setIfInBounds_toArray, List.set_cons_zero, List.set_cons_succ, i64_w, i32_w]
    rfl
  refine done_ (by kernel_rfl) ?_
  go_wp2_with fail
  go_ret
  have hh := copy_made HM.out HB1.out rfl HW3.out
  exact ⟨_, _, rfl, hh.1, fun k hk => hk, hh.2⟩
end Go.Proofs.Ytkhlfdcjgooogaa.P
