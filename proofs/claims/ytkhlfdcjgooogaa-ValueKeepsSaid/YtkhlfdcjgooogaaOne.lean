/- does: any act of both heaps. One heap of the program's, and variables beside it. -/
import Derived.Test.YtkhlfdcjgooogaaHDoesG
import Derived.Test.YtkhlfdcjgooogaaHDoesS
import Derived.Test.YtkhlfdcjgooogaaRd
import Derived.Test.YtkhlfdcjgooogaaHCopy
namespace Go.Proofs.Ytkhlfdcjgooogaa.P
open Go.RowKit Go.Proofs.YtkhlfdcjgooogaaW.PrintWords
def pk (o : Int) : Int := (runnellaw9_pick.f o 4).getD 0
theorem pk_some (o : Int) : runnellaw9_pick.f o 4 = some (pk o) := by
  unfold pk runnellaw9_pick.f
  split <;> simp
/-- What an act leaves of a heap. -/
def actL (L : List (List Int)) (x : A8) : List (List Int) := if pk x.1 = 0 then newL L x.2.1 else if pk x.1 = 1 then L else setL L x.2.2.1.1 x.2.2.1.2 x.2.2.2.1.1 x.2.2.2.1.2 x.2.2.2.2.1 x.2.2.2.2.2
def flat8 (x : A8) : Array Value := #[.int .i64 x.1, .int .i64 x.2.1, .int .i64 x.2.2.1.1, .int .i64 x.2.2.1.2, .int .i64 x.2.2.2.1.1, .int .i64 x.2.2.2.1.2, .int .i64 x.2.2.2.2.1, .int .i64 x.2.2.2.2.2]
def DoesPost (w : World) (Bh Bm : Nat) (okh okm : Nat → Prop) (L M : List (List Int)) (x : A8) (e : Ending) (w' : World) : Prop :=
  (∃ b, e = .returned (.bool b) ∧ (L = M → b = true)) ∧ After w Bh Bm okh okm (actL L x) (actL M x) w'
theorem does_any {w : World} {Bh Bm : Nat} {okh okm : Nat → Prop} {L M : List (List Int)} (T : Two w Bh Bm okh okm L M) (x : A8) :
    Calls Try.prog 17 #[.pointer (some ⟨Bh, 0, none⟩), .pointer (some ⟨Bm, 0, none⟩), .agg (flat8 x)] w (DoesPost w Bh Bm okh okm L M x) := by
  obtain ⟨o, n, ⟨a, an⟩, ⟨i, ii⟩, v, vn⟩ := x
  have hp := pk_some o
  unfold DoesPost actL flat8
  simp only
  by_cases h0 : pk o = 0
  · rw [h0] at hp
    rw [if_pos h0, if_pos h0]
    by_cases q0 : newK L n = newK M n
    · by_cases q1 : newN L n = newN M n
      · refine (does_newC o n a an i ii v vn (L := L) (M := M) (x0 := newK L n) (x1 := newN L n) (e := newE L n) ⟨rfl, rfl, rfl, rfl⟩ ⟨q0.symm, q1.symm, rfl, rfl⟩ T hp).mono fun e w' hh => ?_
        exact ⟨⟨_, hh.1, fun hLM => by subst hLM; simp⟩, hh.2⟩
      · refine (does_newA2 o n a an i ii v vn (L := L) (M := M) (x0 := newK L n) (x1 := newN L n) (e := newE L n) ⟨rfl, rfl, rfl, rfl⟩ ⟨q0.symm, rfl, rfl, rfl⟩ (by simpa using q1) T hp).mono fun e w' hh => ?_
        exact ⟨⟨_, hh.1, fun hLM => absurd (by rw [hLM]) q1⟩, hh.2⟩
    · refine (does_newA1 o n a an i ii v vn (L := L) (M := M) (x0 := newK L n) (x1 := newN L n) (e := newE L n) ⟨rfl, rfl, rfl, rfl⟩ ⟨rfl, rfl, rfl, rfl⟩ (by simpa using q0) T hp).mono fun e w' hh => ?_
      exact ⟨⟨_, hh.1, fun hLM => absurd (by rw [hLM]) q0⟩, hh.2⟩
  · rw [if_neg h0, if_neg h0]
    by_cases h1 : pk o = 1
    · rw [h1] at hp
      rw [if_pos h1, if_pos h1]
      by_cases q0 : getK L a an i ii = getK M a an i ii
      · by_cases q1 : getN L a an i ii = getN M a an i ii
        · refine (does_getC o n a an i ii v vn (L := L) (M := M) (x0 := getK L a an i ii) (x1 := getN L a an i ii) ⟨rfl, rfl, rfl⟩ ⟨q0.symm, q1.symm, rfl⟩ T hp).mono fun e w' hh => ?_
          exact ⟨⟨_, hh.1, fun hLM => by subst hLM; simp⟩, hh.2⟩
        · refine (does_getA2 o n a an i ii v vn (L := L) (M := M) (x0 := getK L a an i ii) (x1 := getN L a an i ii) ⟨rfl, rfl, rfl⟩ ⟨q0.symm, rfl, rfl⟩ (by simpa using q1) T hp).mono fun e w' hh => ?_
          exact ⟨⟨_, hh.1, fun hLM => absurd (by rw [hLM]) q1⟩, hh.2⟩
      · refine (does_getA1 o n a an i ii v vn (L := L) (M := M) (x0 := getK L a an i ii) (x1 := getN L a an i ii) ⟨rfl, rfl, rfl⟩ ⟨rfl, rfl, rfl⟩ (by simpa using q0) T hp).mono fun e w' hh => ?_
        exact ⟨⟨_, hh.1, fun hLM => absurd (by rw [hLM]) q0⟩, hh.2⟩
    · rw [if_neg h1, if_neg h1]
      refine (does_set o n a an i ii v vn (pk o) rfl rfl (by simpa using h0) (by simpa using h1) T hp).mono fun e w' hh => ?_
      exact ⟨⟨_, hh.1, fun hLM => by subst hLM; simp⟩, hh.2⟩
theorem actL_le {L : List (List Int)} (x : A8) (hc : cellsOf L ≤ 262144) : cellsOf (actL L x) ≤ 262144 := by
  unfold actL
  split
  · exact newL_le _ hc
  · split
    · exact hc
    · exact setL_le _ _ _ _ _ _ hc
end Go.Proofs.Ytkhlfdcjgooogaa.P
namespace Go.Proofs.Ytkhlfdcjgooogaa.P
open Go.RowKit Go.Proofs.YtkhlfdcjgooogaaW.PrintWords Go.Proofs.YtkhlfdcjgooogaaW.PrintLast Go.Proofs.YtkhlfdcjgooogaaW.PrintMore
set_option linter.unusedVariables false
set_option linter.unusedSimpArgs false
/-- A heap at Bh, its blocks made since w0. -/
structure H1 (w0 : World) (w : World) (Bh : Nat) (okh : Nat → Prop) (L : List (List Int)) : Prop where
  hh : HA w Bh okh L
  sub : ∀ k, okh k → w0.heap.size ≤ k ∧ k < w.heap.size
  ch : cellsOf L ≤ 262144
  bel : Below w0.heap.size w0 w
def Keep1 (w w' : World) (okh okh' : Nat → Prop) : Prop := ∀ k, k < w.heap.size → ¬ okh k → w'.heap[k]? = w.heap[k]? ∧ ¬ okh' k
structure Var1 (w : World) (okh : Nat → Prop) (g : Nat) (cs : Array Value) (t : Nat) : Prop where
  blk : w.heap[g]? = some (.cells cs t (0, 0))
  nh : ¬ okh g
variable {w0 w w' : World} {Bh g t : Nat} {okh okh' : Nat → Prop} {L : List (List Int)} {cs : Array Value}
theorem Var1.keep (h : Var1 w okh g cs t) (k : Keep1 w w' okh okh') : Var1 w' okh' g cs t := by
  obtain ⟨h1, h2⟩ := k g (blk_lt h.blk) h.nh
  exact ⟨h1.trans h.blk, h2⟩
theorem Var1.below (h : Var1 w okh g cs t) (hb : Below w.heap.size w w') : Var1 w' okh g cs t := ⟨blk_below h.blk hb, h.nh⟩
theorem Var1.fresh (T : H1 w0 w Bh okh L) (h : w'.heap[g]? = some (.cells cs t (0, 0))) (hg : w.heap.size ≤ g) : Var1 w' okh g cs t :=
  ⟨h, fun hk => by have := (T.sub _ hk).2; omega⟩
theorem H1.below (h : H1 w0 w Bh okh L) (hb : Below w.heap.size w w') : H1 w0 w' Bh okh L :=
  ⟨h.hh.below hb, fun k hk => ⟨(h.sub k hk).1, Nat.lt_of_lt_of_le (h.sub k hk).2 hb.size⟩, h.ch, h.bel.trans (hb.mono h.bel.size)⟩
theorem h1_new (h : H1 w0 w Bh okh L) (n : Int) {x0 x1 x2 : Int} {x3 : Bool} {L' : List (List Int)} (hx : newK L n = x0 ∧ newN L n = x1 ∧ newE L n = x2 ∧ newR L n = x3 ∧ newL L n = L') :
    Calls Try.prog 20 #[.pointer (some ⟨Bh, 0, none⟩), .int .i64 n] w fun e w' => e = .returned (.tuple #[.agg #[.int .i64 x0, .int .i64 x1], .int .i64 x2, .bool x3]) ∧ ∃ okh', H1 w0 w' Bh okh' L' ∧ Keep1 w w' okh okh' := by
  obtain ⟨rfl, rfl, rfl, rfl, rfl⟩ := hx
  refine (hnew n h.hh h.ch).mono fun e w' hh => ?_
  obtain ⟨he, hH, hc⟩ := hh
  refine ⟨he, ext okh w w', ⟨hH, fun k hk => ?_, newL_le n h.ch, h.bel.trans (hc.below h.bel.size (fun x hx ho => by have := (h.sub x ho).1; omega))⟩, fun k hk h1 => ⟨hc.block k hk h1, ext_not h1 hk⟩⟩
  rcases hk with hk | ⟨h1, h2⟩
  · exact ⟨(h.sub k hk).1, Nat.lt_of_lt_of_le (h.sub k hk).2 hc.size⟩
  · exact ⟨Nat.le_trans h.bel.size h1, h2⟩
theorem h1_set (h : H1 w0 w Bh okh L) (a n k i s x : Int) {r : Int} {L' : List (List Int)} (hr : wrongF L a n k i = r ∧ setL L a n k i s x = L') :
    Calls Try.prog 24 #[.pointer (some ⟨Bh, 0, none⟩), .agg #[.int .i64 a, .int .i64 n], .agg #[.int .i64 k, .int .i64 i], .agg #[.int .i64 s, .int .i64 x]] w fun e w' => e = .returned (.int .i64 r) ∧ H1 w0 w' Bh okh L' ∧ Chg okh w w' := by
  obtain ⟨rfl, rfl⟩ := hr
  refine (hset a n k i s x h.hh h.ch).mono fun e w' hh => ?_
  obtain ⟨he, hH, hc⟩ := hh
  exact ⟨he, ⟨hH, fun k hk => ⟨(h.sub k hk).1, Nat.lt_of_lt_of_le (h.sub k hk).2 hc.size⟩, setL_le _ _ _ _ _ _ h.ch, h.bel.trans (hc.below h.bel.size (fun x hx ho => by have := (h.sub x ho).1; omega))⟩, hc⟩
theorem h1_get (h : H1 w0 w Bh okh L) (a n k i : Int) {x0 x1 r : Int} (hx : getK L a n k i = x0 ∧ getN L a n k i = x1 ∧ wrongF L a n k i = r) :
    Calls Try.prog 21 #[.pointer (some ⟨Bh, 0, none⟩), .agg #[.int .i64 a, .int .i64 n], .agg #[.int .i64 k, .int .i64 i]] w fun e w' => e = .returned (.tuple #[.agg #[.int .i64 x0, .int .i64 x1], .int .i64 r]) ∧ Below w.heap.size w w' := by
  obtain ⟨rfl, rfl, rfl⟩ := hx
  exact hget a n k i h.hh h.ch
theorem h1_cells (h : H1 w0 w Bh okh L) {c : Int} (hc : cellsOf L = c) : Calls Try.prog 18 #[.pointer (some ⟨Bh, 0, none⟩)] w fun e w' => e = .returned (.int .i64 c) ∧ Below w.heap.size w w' := by
  subst hc
  exact (hcells h.hh h.ch).mono fun e w' hh => ⟨hh.1, by rw [hh.2]; exact Below.refl _ _⟩
theorem h1_len (h : H1 w0 w Bh okh L) (a n : Int) {c : Int} (hc : lenF L a n = c) : Calls Try.prog 22 #[.pointer (some ⟨Bh, 0, none⟩), .agg #[.int .i64 a, .int .i64 n]] w fun e w' => e = .returned (.int .i64 c) ∧ Below w.heap.size w w' := by
  subst hc
  exact hlen a n h.hh h.ch
theorem h1_arrays (h : H1 w0 w Bh okh L) {m : Nat} (hm : L.length = m) : Calls Try.prog 19 #[.pointer (some ⟨Bh, 0, none⟩)] w fun e w' => (∃ A c, e = .returned (.slice A m c)) ∧ Below w.heap.size w w' := by
  subst hm
  refine (harrays h.hh h.ch).mono fun e w' hh => ?_
  obtain ⟨v, he, hm, hb⟩ := hh
  obtain ⟨A, c, rfl⟩ := own_slice hm.choose_spec.own
  exact ⟨⟨A, c, he⟩, hb⟩
/-- An act, beside an empty heap of the document's: the program's is one again. -/
theorem h1_does (h : H1 w0 w Bh okh L) {Bm : Nat} (hm : w.heap[Bm]? = some (.cells #[.slice none 0 0] 51 (0, 0))) (hn : ¬ okh Bm) (hw : w0.heap.size ≤ Bm) (x : A8) :
    Calls Try.prog 17 #[.pointer (some ⟨Bh, 0, none⟩), .pointer (some ⟨Bm, 0, none⟩), .agg (flat8 x)] w fun e w' => (∃ b, e = .returned (.bool b)) ∧ ∃ okh', H1 w0 w' Bh okh' (actL L x) := by
  have T : Two w Bh Bm okh (fun k => k = Bm) L [] := ⟨h.hh, HR.empty hm, fun k hk e => hn (e ▸ hk), fun k hk => (h.sub k hk).2, fun k hk => hk ▸ blk_lt hm, h.ch, by decide⟩
  refine (does_any T x).mono fun e w' hh => ?_
  obtain ⟨⟨b, he, _⟩, okh', okm', R, _⟩ := hh
  refine ⟨⟨b, he⟩, okh', ⟨R.two.hh, fun k hk => ⟨?_, R.two.lh k hk⟩, R.two.ch, h.bel.trans (R.chg.below h.bel.size (fun x hx ho => ?_))⟩⟩
  · rcases R.sh k hk with h1 | h1
    · exact (h.sub k h1).1
    · exact Nat.le_trans h.bel.size h1
  · rcases ho with ho | ho
    · have := (h.sub x ho).1
      omega
    · omega
end Go.Proofs.Ytkhlfdcjgooogaa.P
