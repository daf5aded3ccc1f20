/- Both heaps side by side. -/
import Derived.Test.YtkhlfdcjgooogaaHeapJ
namespace Go.Proofs.Ytkhlfdcjgooogaa.P
open Go.RowKit Go.Proofs.YtkhlfdcjgooogaaW.PrintWords Go.Proofs.YtkhlfdcjgooogaaW.PrintLast Go.Proofs.YtkhlfdcjgooogaaW.PrintMore
set_option linter.unusedVariables false
set_option linter.unusedSimpArgs false
theorem HR.empty {W : World} {B : Nat} (h : W.heap[B]? = some (.cells #[.slice none 0 0] 51 (0, 0))) : HR W B (fun k => k = B) [] :=
  ⟨rfl, .slice none 0 0, [], h, ⟨by simp [rows], .inl ⟨rfl, rfl⟩⟩, fun k hk => by simp [Value.ownBlock] at hk, rfl, by simp, fun j hj => by simp at hj⟩
structure Two (w : World) (Bh Bm : Nat) (okh okm : Nat → Prop) (L M : List (List Int)) : Prop where
  hh : HA w Bh okh L
  hm : HR w Bm okm M
  dj : ∀ k, okh k → ¬ okm k
  lh : ∀ k, okh k → k < w.heap.size
  lm : ∀ k, okm k → k < w.heap.size
  ch : cellsOf L ≤ 262144
  cm : cellsOf M ≤ 262144
variable {w w' : World} {Bh Bm : Nat} {okh okm : Nat → Prop} {L M L' M' : List (List Int)}
theorem Two.below (h : Two w Bh Bm okh okm L M) (hb : Below w.heap.size w w') : Two w' Bh Bm okh okm L M :=
  ⟨h.hh.below hb, h.hm.below hb, h.dj, fun k hk => Nat.lt_of_lt_of_le (h.lh k hk) hb.size, fun k hk => Nat.lt_of_lt_of_le (h.lm k hk) hb.size, h.ch, h.cm⟩
theorem Two.newH (h : Two w Bh Bm okh okm L M) (hH : HA w' Bh (ext okh w w') L') (hc : Chg okh w w') (hl : cellsOf L' ≤ 262144) : Two w' Bh Bm (ext okh w w') okm L' M :=
  ⟨hH, h.hm.step (fun k hk ho => hc.block k hk (fun hh => h.dj k hh ho)), fun k hk ho => by rcases hk with hk | ⟨h1, _⟩; exact h.dj k hk ho; exact absurd (h.lm k ho) (by omega), fun k hk => by rcases hk with hk | ⟨_, h2⟩; exact Nat.lt_of_lt_of_le (h.lh k hk) hc.size; exact h2,
   fun k hk => Nat.lt_of_lt_of_le (h.lm k hk) hc.size, hl, h.cm⟩
theorem Two.setH (h : Two w Bh Bm okh okm L M) (hH : HA w' Bh okh L') (hc : Chg okh w w') (hl : cellsOf L' ≤ 262144) : Two w' Bh Bm okh okm L' M :=
  ⟨hH, h.hm.step (fun k hk ho => hc.block k hk (fun hh => h.dj k hh ho)), h.dj, fun k hk => Nat.lt_of_lt_of_le (h.lh k hk) hc.size, fun k hk => Nat.lt_of_lt_of_le (h.lm k hk) hc.size, hl, h.cm⟩
theorem Two.newM (h : Two w Bh Bm okh okm L M) (hM : HR w' Bm (ext okm w w') M') (hc : Chg okm w w') (hl : cellsOf M' ≤ 262144) : Two w' Bh Bm okh (ext okm w w') L M' :=
  ⟨h.hh.step (fun k hk ho => hc.block k hk (fun hm => h.dj k ho hm)), hM, fun k ho hk => by rcases hk with hk | ⟨h1, _⟩; exact h.dj k ho hk; exact absurd (h.lh k ho) (by omega), fun k hk => Nat.lt_of_lt_of_le (h.lh k hk) hc.size,
   fun k hk => by rcases hk with hk | ⟨_, h2⟩; exact Nat.lt_of_lt_of_le (h.lm k hk) hc.size; exact h2, h.ch, hl⟩
theorem Two.setM (h : Two w Bh Bm okh okm L M) (hM : HR w' Bm okm M') (hc : Chg okm w w') (hl : cellsOf M' ≤ 262144) : Two w' Bh Bm okh okm L M' :=
  ⟨h.hh.step (fun k hk ho => hc.block k hk (fun hm => h.dj k ho hm)), hM, h.dj, fun k hk => Nat.lt_of_lt_of_le (h.lh k hk) hc.size, fun k hk => Nat.lt_of_lt_of_le (h.lm k hk) hc.size, h.ch, hl⟩
/-- A run of acts: since world w0 (both heaps' blocks then: okh0, okm0). -/
structure Run (w0 : World) (okh0 okm0 : Nat → Prop) (w : World) (Bh Bm : Nat) (okh okm : Nat → Prop) (L M : List (List Int)) : Prop where
  two : Two w Bh Bm okh okm L M
  sh : ∀ k, okh k → okh0 k ∨ w0.heap.size ≤ k
  sm : ∀ k, okm k → okm0 k ∨ w0.heap.size ≤ k
  chg : Chg (fun k => okh0 k ∨ okm0 k) w0 w
/-- What is neither heap's is as it was, and is neither's. -/
def Keep (w w' : World) (okh okm okh' okm' : Nat → Prop) : Prop := ∀ k, k < w.heap.size → ¬ okh k → ¬ okm k → w'.heap[k]? = w.heap[k]? ∧ ¬ okh' k ∧ ¬ okm' k
/-- A variable's block. -/
structure Var (w : World) (okh okm : Nat → Prop) (g : Nat) (cs : Array Value) (t : Nat) : Prop where
  blk : w.heap[g]? = some (.cells cs t (0, 0))
  nh : ¬ okh g
  nm : ¬ okm g
variable {w0 : World} {okh0 okm0 okh' okm' : Nat → Prop} {g t : Nat} {cs : Array Value}
theorem Var.keep (h : Var w okh okm g cs t) (k : Keep w w' okh okm okh' okm') : Var w' okh' okm' g cs t := by
  obtain ⟨h1, h2, h3⟩ := k g (blk_lt h.blk) h.nh h.nm
  exact ⟨h1.trans h.blk, h2, h3⟩
theorem Var.below (h : Var w okh okm g cs t) (hb : Below w.heap.size w w') : Var w' okh okm g cs t := ⟨blk_below h.blk hb, h.nh, h.nm⟩
theorem Var.fresh (T : Two w Bh Bm okh okm L M) (h : w'.heap[g]? = some (.cells cs t (0, 0))) (hg : w.heap.size ≤ g) : Var w' okh okm g cs t :=
  ⟨h, fun hk => by have := T.lh _ hk; omega, fun hk => by have := T.lm _ hk; omega⟩
theorem Run.start (T : Two w Bh Bm okh okm L M) : Run w okh okm w Bh Bm okh okm L M := ⟨T, fun _ h => .inl h, fun _ h => .inl h, Chg.refl _ _⟩
theorem Run.below (R : Run w0 okh0 okm0 w Bh Bm okh okm L M) (hb : Below w.heap.size w w') : Run w0 okh0 okm0 w' Bh Bm okh okm L M := ⟨R.two.below hb, R.sh, R.sm, R.chg.then hb⟩
theorem Run.le (R : Run w0 okh0 okm0 w Bh Bm okh okm L M) : w0.heap.size ≤ w.heap.size := R.chg.size
theorem ext_sub {ok ok0 : Nat → Prop} (hs : ∀ k, ok k → ok0 k ∨ w0.heap.size ≤ k) (hw : w0.heap.size ≤ w.heap.size) : ∀ k, ext ok w w' k → ok0 k ∨ w0.heap.size ≤ k := by
  rintro k (h | ⟨h, _⟩)
  · exact hs k h
  · exact .inr (Nat.le_trans hw h)
theorem run_newH (R : Run w0 okh0 okm0 w Bh Bm okh okm L M) (n : Int) {x0 x1 x2 : Int} {x3 : Bool} (hx : newK L n = x0 ∧ newN L n = x1 ∧ newE L n = x2 ∧ newR L n = x3) :
    Calls Try.prog 20 #[.pointer (some ⟨Bh, 0, none⟩), .int .i64 n] w fun e w' => e = .returned (.tuple #[.agg #[.int .i64 x0, .int .i64 x1], .int .i64 x2, .bool x3]) ∧ ∃ okh', Run w0 okh0 okm0 w' Bh Bm okh' okm (newL L n) M ∧ Keep w w' okh okm okh' okm := by
  obtain ⟨rfl, rfl, rfl, rfl⟩ := hx
  refine (hnew n R.two.hh R.two.ch).mono fun e w' hh => ?_
  obtain ⟨he, hH, hc⟩ := hh
  exact ⟨he, ext okh w w', ⟨R.two.newH hH hc (newL_le n R.two.ch), ext_sub R.sh R.le, R.sm, R.chg.trans hc (fun x hx h => (R.sh x h).elim .inl (fun h => absurd hx (by omega)))⟩, fun k hk h1 h2 => ⟨hc.block k hk h1, ext_not h1 hk, h2⟩⟩
theorem run_newM (R : Run w0 okh0 okm0 w Bh Bm okh okm L M) (n : Int) {x0 x1 x2 : Int} {x3 : Bool} (hx : newK M n = x0 ∧ newN M n = x1 ∧ newE M n = x2 ∧ newR M n = x3) :
    Calls Try.prog 40 #[.pointer (some ⟨Bm, 0, none⟩), .int .i64 n] w fun e w' => e = .returned (.tuple #[.agg #[.int .i64 x0, .int .i64 x1], .int .i64 x2, .bool x3]) ∧ ∃ okm', Run w0 okh0 okm0 w' Bh Bm okh okm' L (newL M n) ∧ Keep w w' okh okm okh okm' := by
  obtain ⟨rfl, rfl, rfl, rfl⟩ := hx
  refine (mnew n R.two.hm R.two.cm).mono fun e w' hh => ?_
  obtain ⟨he, hH, hc⟩ := hh
  exact ⟨he, ext okm w w', ⟨R.two.newM hH hc (newL_le n R.two.cm), R.sh, ext_sub R.sm R.le, R.chg.trans hc (fun x hx h => (R.sm x h).elim .inr (fun h => absurd hx (by omega)))⟩, fun k hk h1 h2 => ⟨hc.block k hk h2, h1, ext_not h2 hk⟩⟩
theorem run_setH (R : Run w0 okh0 okm0 w Bh Bm okh okm L M) (a n k i s x : Int) {r : Int} (hr : wrongF L a n k i = r) :
    Calls Try.prog 24 #[.pointer (some ⟨Bh, 0, none⟩), .agg #[.int .i64 a, .int .i64 n], .agg #[.int .i64 k, .int .i64 i], .agg #[.int .i64 s, .int .i64 x]] w fun e w' => e = .returned (.int .i64 r) ∧ Run w0 okh0 okm0 w' Bh Bm okh okm (setL L a n k i s x) M ∧ Keep w w' okh okm okh okm := by
  subst hr
  refine (hset a n k i s x R.two.hh R.two.ch).mono fun e w' hh => ?_
  obtain ⟨he, hH, hc⟩ := hh
  exact ⟨he, ⟨R.two.setH hH hc (setL_le _ _ _ _ _ _ R.two.ch), R.sh, R.sm, R.chg.trans hc (fun x hx h => (R.sh x h).elim .inl (fun h => absurd hx (by omega)))⟩, fun k hk h1 h2 => ⟨hc.block k hk h1, h1, h2⟩⟩
theorem run_setM (R : Run w0 okh0 okm0 w Bh Bm okh okm L M) (a n k i s x : Int) {r : Int} (hr : wrongF M a n k i = r) :
    Calls Try.prog 42 #[.pointer (some ⟨Bm, 0, none⟩), .agg #[.int .i64 a, .int .i64 n], .agg #[.int .i64 k, .int .i64 i], .agg #[.int .i64 s, .int .i64 x]] w fun e w' => e = .returned (.int .i64 r) ∧ Run w0 okh0 okm0 w' Bh Bm okh okm L (setL M a n k i s x) ∧ Keep w w' okh okm okh okm := by
  subst hr
  refine (mset a n k i s x R.two.hm R.two.cm).mono fun e w' hh => ?_
  obtain ⟨he, hH, hc⟩ := hh
  exact ⟨he, ⟨R.two.setM hH hc (setL_le _ _ _ _ _ _ R.two.cm), R.sh, R.sm, R.chg.trans hc (fun x hx h => (R.sm x h).elim .inr (fun h => absurd hx (by omega)))⟩, fun k hk h1 h2 => ⟨hc.block k hk h2, h1, h2⟩⟩
theorem run_getH (R : Run w0 okh0 okm0 w Bh Bm okh okm L M) (a n k i : Int) {x0 x1 r : Int} (hx : getK L a n k i = x0 ∧ getN L a n k i = x1 ∧ wrongF L a n k i = r) :
    Calls Try.prog 21 #[.pointer (some ⟨Bh, 0, none⟩), .agg #[.int .i64 a, .int .i64 n], .agg #[.int .i64 k, .int .i64 i]] w fun e w' => e = .returned (.tuple #[.agg #[.int .i64 x0, .int .i64 x1], .int .i64 r]) ∧ Below w.heap.size w w' := by
  obtain ⟨rfl, rfl, rfl⟩ := hx
  exact hget a n k i R.two.hh R.two.ch
theorem run_getM (R : Run w0 okh0 okm0 w Bh Bm okh okm L M) (a n k i : Int) {x0 x1 r : Int} (hx : getK M a n k i = x0 ∧ getN M a n k i = x1 ∧ wrongF M a n k i = r) :
    Calls Try.prog 41 #[.pointer (some ⟨Bm, 0, none⟩), .agg #[.int .i64 a, .int .i64 n], .agg #[.int .i64 k, .int .i64 i]] w fun e w' => e = .returned (.tuple #[.agg #[.int .i64 x0, .int .i64 x1], .int .i64 r]) ∧ Below w.heap.size w w' := by
  obtain ⟨rfl, rfl, rfl⟩ := hx
  exact mget a n k i R.two.hm R.two.cm
/-- What both have become. -/
def After (w : World) (Bh Bm : Nat) (okh okm : Nat → Prop) (L' M' : List (List Int)) (w' : World) : Prop := ∃ okh' okm', Run w okh okm w' Bh Bm okh' okm' L' M' ∧ Keep w w' okh okm okh' okm'
theorem Run.after (R : Run w okh okm w' Bh Bm okh' okm' L' M') : After w Bh Bm okh okm L' M' w' := by
  refine ⟨okh', okm', R, fun k hk h1 h2 => ⟨R.chg.block k hk (fun h => h.elim h1 h2), fun h => ?_, fun h => ?_⟩⟩
  · rcases R.sh k h with h | h
    · exact h1 h
    · omega
  · rcases R.sm k h with h | h
    · exact h2 h
    · omega
end Go.Proofs.Ytkhlfdcjgooogaa.P
