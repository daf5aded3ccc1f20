/- A list of trees that a law collects by append, its trees lying where they lie. -/
import Derived.Test.YtpggidmpkhmijaaHDepths
namespace Go.Proofs.Ytpggidmpkhmijaa.P
open Go.RowKit Go.Proofs.YtpggidmpkhmijaaW.PrintWords Go.Proofs.YtpggidmpkhmijaaW.PrintLast Go.Proofs.YtpggidmpkhmijaaW.PrintMore
set_option linter.unusedVariables false
/-- Nodes that are read in this world, and in each in which no block has turned but the list's own. -/
def FC (W : World) (v : Value) (A : Option Addr) (xs : List S24) : Prop := ∀ W', W.grownBy W' v.ownBlock → Kd.C k24 W' A xs.length xs
def TLc (W : World) (v : Value) : List S30 → List Value → Prop
  | [], cs => cs = []
  | t :: ts, cs => ∃ A c cs', cs = .slice A t.f0.length c :: .int .i64 t.f1 :: cs' ∧ t.f0.length ≤ c ∧ FC W v A t.f0 ∧ TLc W v ts cs'
structure TL (w W : World) (v : Value) (ts : List S30) : Prop where
  cells : ∃ cs, W.ownsRow w.heap.size 30 2 v ts.length cs ∧ TLc W v ts cs
  below : Below w.heap.size w W
theorem TLc.later {W W' : World} {v v' : Value} (h : ∀ A xs, FC W v A xs → FC W' v' A xs) : ∀ {ts : List S30} {cs : List Value}, TLc W v ts cs → TLc W' v' ts cs
  | [], cs, hc => hc
  | t :: ts, cs, ⟨A, c, cs', e, hl, hF, hr⟩ => ⟨A, c, cs', e, hl, h _ _ hF, TLc.later h hr⟩
theorem TLc.snoc {W : World} {v : Value} {t : S30} {A : Option Addr} {c : Nat} (hl : t.f0.length ≤ c) (hF : FC W v A t.f0) : ∀ {ts : List S30} {cs : List Value}, TLc W v ts cs → TLc W v (ts ++ [t]) (cs ++ [.slice A t.f0.length c, .int .i64 t.f1])
  | [], cs, hc => by subst hc; exact ⟨A, c, [], rfl, hl, hF, rfl⟩
  | t' :: ts, cs, ⟨A', c', cs', e, hl', hF', hr⟩ => ⟨A', c', _, by rw [e]; rfl, hl', hF', TLc.snoc hl hF hr⟩
theorem TLc.reps {W : World} {v : Value} : ∀ {ts : List S30} {cs : List Value}, TLc W v ts cs → Reps (k30.K W) 2 ts cs
  | [], cs, hc => by subst hc; exact Reps.none _ _
  | t :: ts, cs, ⟨A, c, cs', e, hl, hF, hr⟩ => by
    subst e
    exact Reps.c2 (k30_mk W t hl (hF W ⟨rfl, rfl, rfl, Nat.le_refl _, fun _ _ _ => rfl⟩)) (TLc.reps hr)
theorem TL.nil {w W : World} (h : Below w.heap.size w W) : TL w W (.slice none 0 0) [] := ⟨⟨[], World.ownsRow_nil _ _ _ _, rfl⟩, h⟩
theorem FC.below {W W' : World} {v : Value} {A : Option Addr} {xs : List S24} (hb : Below W.heap.size W W') (h : FC W v A xs) : FC W' v A xs := fun X hX =>
  h X ⟨hX.os.trans hb.os, hX.tape.trans hb.tape, hX.output.trans hb.output, Nat.le_trans hb.size hX.size, fun k hk hn => (hX.block k (Nat.lt_of_lt_of_le hk hb.size) hn).trans (hb.block k hk)⟩
theorem TL.step {w W W' : World} {v : Value} {ts : List S30} (h : TL w W v ts) (hb : Below W.heap.size W W') : TL w W' v ts := by
  obtain ⟨cs, ho, hc⟩ := h.cells
  exact ⟨⟨cs, own_move ho (fun k hk => hb.block k (ho.lt k hk).2), hc.later (fun _ _ => FC.below hb)⟩, h.below.trans (hb.mono h.below.size)⟩
theorem TL.alloc {w W : World} {v : Value} {ts : List S30} (h : TL w W v ts) (o : Obj) : TL w (W.alloc o) v ts := h.step ((Below.refl _ _).alloc (Nat.le_refl _) _)
/-- The list, read. -/
theorem TL.reads {w W : World} {v : Value} {ts : List S30} (h : TL w W v ts) : ∃ A c, v = .slice A ts.length c ∧ ts.length ≤ c ∧ Kd.C k30 W A ts.length ts := by
  obtain ⟨cs, ho, hc⟩ := h.cells
  obtain ⟨A, c, e, hr⟩ := own_reads_row ho hc.reps rfl
  refine ⟨A, c, e, ?_, hr⟩
  rcases ho.2 with ⟨e', h0⟩ | ⟨g, cap, cur, e', _, _, hl, _⟩
  · rw [e] at e'; injection e' with _ _ e3; omega
  · rw [e] at e'; injection e' with _ _ e3; omega
/-- A tree of the arguments. -/
theorem FC.old {w W : World} {v : Value} {A : Option Addr} {xs : List S24} (h : Kd.C k24 w A xs.length xs) (hb : Below w.heap.size w W) (hv : ∀ k, v.ownBlock = some k → w.heap.size ≤ k) : FC W v A xs := fun X hX =>
  Kd.C_below h (hb.grown hX hb.size hv)
/-- A tree that was made behind the list's last turn. -/
theorem FC.made {W : World} {v : Value} {N : Nat} {xs : List S24} {A : Option Addr} {c : Nat} (h : Kd.S k24 24 W N (fun _ => True) (.slice A xs.length c) xs) (hv : ∀ k, v.ownBlock = some k → k < N) : FC W v A xs := fun X hX => by
  have h1 := Kd.S_step (w1 := X) (Kd.S_bound h) (fun k hk hlt => hX.block k hlt (fun e => by have := hv k e.symm; omega))
  obtain ⟨_, _, h2⟩ := Kd.S_reads' h1
  exact h2
/-- What append leaves. -/
theorem TL.append {w W w1 : World} {v v' : Value} {ts : List S30} {t : S30} {A : Option Addr} {c : Nat} {tmp : Obj} (hb : Below w.heap.size w W) {cs : List Value} (hown : W.ownsRow w.heap.size 30 2 v ts.length cs) (hc : TLc W v ts cs) (hl : t.f0.length ≤ c) (hF : FC W v A t.f0)
    (ho : w1.ownsRow w.heap.size 30 2 v' (ts.length + 1) (cs ++ [.slice A t.f0.length c, .int .i64 t.f1])) (hg : (W.alloc tmp).grownBy w1 v.ownBlock) (hat : v'.ownBlock = v.ownBlock ∨ ∃ b, v'.ownBlock = some b ∧ W.heap.size ≤ b) : TL w w1 v' (ts ++ [t]) := by
  have hg0 : W.grownBy w1 v.ownBlock := ⟨hg.os, hg.tape, hg.output, by have := hg.size; simp at this; omega, fun k hk hn => (hg.block k (by simp; omega) hn).trans (Below.heap_alloc W tmp k hk)⟩
  have hF' : ∀ A xs, FC W v A xs → FC w1 v' A xs := fun A xs hA X hX => hA X ⟨hX.os.trans hg0.os, hX.tape.trans hg0.tape, hX.output.trans hg0.output, Nat.le_trans hg0.size hX.size, fun k hk hn => by
    refine (hX.block k (Nat.lt_of_lt_of_le hk hg0.size) (fun e => ?_)).trans (hg0.block k hk hn)
    rcases hat with e' | ⟨b, e', hb⟩
    · rw [e'] at e; exact hn e
    · rw [e'] at e; injection e with e; omega⟩
  refine ⟨⟨_, by rw [List.length_append, List.length_singleton]; exact ho, TLc.snoc hl (hF' _ _ hF) (hc.later hF')⟩, hb.grown hg0 hb.size (fun k e => (hown.lt k e).1)⟩
end Go.Proofs.Ytpggidmpkhmijaa.P
