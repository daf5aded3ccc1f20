/- How data that came in is read: by kinds (Kd), type by type. -/
import Derived.Test.YtjlcbhlpibgplaaDoorWWords
import Derived.WalkKit
import Derived.ProofKit
import Derived.OpenShut
import Derived.ShutString
import Derived.ChangeOld
import Derived.Below
import Derived.SizedLaws
import Derived.Deep.Slices
namespace Go.Proofs.YtjlcbhlpibgplaaDoor.Op
open Go.RowKit Go.ChangeShapes Go.WideShapes Go.ChangeAt Go.Deep Go.Proofs.YtjlcbhlpibgplaaDoorW.PrintWords
set_option linter.unusedVariables false

/-- Whatever cells read as data of type t tell a value of the kind d, of which G holds. -/
def Rd {α : Type} (P : Program) (t : TypeId) (d : Kd α) (G : α → Prop) : Prop :=
  ∀ (H : Type) (enc : TypeId × Value → H) (w : World) (fuel : Nat) (cs : List Value) (x : DataW H × List MemPlace),
    DataW.trod enc P w 0 (fun _ => true) true fuel t cs = some x → ∃ a, d.K w a cs ∧ G a
variable {P : Program} {t : TypeId}
theorem Rd.int {k : IntKind} (ht : P.underlying t = some (.int k)) : Rd P t (Kd.int k) (fun a => (Lit.int k a).wf = true) := fun H enc w fuel cs x h => by
  obtain ⟨n, rfl, _, hw⟩ := DataW.trod_int ht h
  exact ⟨n, rfl, hw⟩
theorem Rd.string (ht : P.underlying t = some .string) : Rd P t Kd.string (fun s => s.size ≤ maxLen) := fun H enc w fuel cs x h => by
  obtain ⟨s, rfl, _, hs⟩ := DataW.trod_string ht h
  exact ⟨s, rfl, hs⟩
theorem add_block (a : Addr) (n : Nat) : (a.add n).block = a.block := by unfold Addr.add; split <;> rfl
theorem Rd.slice {α : Type} {e : TypeId} {d : Kd α} {G : α → Prop} (ht : P.underlying t = some (.slice e)) (hC : P.cellsOf e = d.sz) (he : Rd P e d G) :
    Rd P t (Kd.slice e d) (fun xs => xs.length ≤ maxLen ∧ ∀ a ∈ xs, G a) := fun H enc w fuel cs x h => by
  rcases open_slice ht h with ⟨rfl, _⟩ | ⟨a, len, cap, m, n, D, Pl, rfl, _, hl, hm, hmm, _, hi⟩
  · exact ⟨[], ⟨none, 0, rfl, Nat.le_refl _, rfl, by simp, fun hp => absurd hp (by simp)⟩, by simp, fun a ha => by cases ha⟩
  · have hlen : len ≤ maxLen := Nat.le_trans hl hm
    have hlm : len ≤ m := by rw [hmm]; split <;> omega
    have hx : ∀ i : Fin len, ∃ y : α, G y ∧ ∃ cs', cs'.length = d.sz ∧ d.K w y cs' ∧ ∀ j u, cs'[j]? = some u → w.cell? (a.add (i.val * d.sz + j)) = some u := fun i => by
      obtain ⟨cs', hc, ht'⟩ := hi i.val (by have := i.isLt; omega)
      obtain ⟨y, hK, hG⟩ := he H enc w n cs' _ ht'
      obtain ⟨_, hcl, hat⟩ := World.cells?_some hc
      refine ⟨y, hG, cs', by rw [hcl, hC], hK, fun j u hu => ?_⟩
      have hj : j < P.cellsOf e := by rw [← hcl]; exact (List.getElem?_eq_some_iff.1 hu).1
      have := hat j hj
      rw [Go.Deep.add_add, hC] at this
      exact this.trans hu
    refine ⟨List.ofFn fun i => Classical.choose (hx i), ⟨some a, cap, by simp, by simpa using hl, ?_⟩, by simpa using hlen, fun y hy => ?_⟩
    · refine ⟨by simp, by simp only [List.length_ofFn]; simp only [maxLen] at hlen; omega, fun _ => ⟨a, rfl, fun j p hj => ?_⟩⟩
      obtain ⟨hjl, hp⟩ := List.getElem?_eq_some_iff.1 hj
      rw [List.length_ofFn] at hjl
      rw [List.getElem_ofFn] at hp
      subst hp
      obtain ⟨_, c, h1, h2, h3⟩ := Classical.choose_spec (hx ⟨j, hjl⟩)
      exact ⟨c, h1, h2, h3⟩
    · obtain ⟨i, hi'⟩ := List.mem_ofFn.1 hy
      rw [← hi']
      exact (Classical.choose_spec (hx i)).1
theorem pairK {α β : Type} {a : Kd α} {b : Kd β} {w : World} {x : α} {y : β} {cs : List Value} (o : Nat) (h1 : a.K w x ((cs.drop o).take a.sz)) (h2 : b.K w y (cs.drop (o + a.sz))) : (Kd.pair a b).K w (x, y) (cs.drop o) :=
  ⟨_, _, by rw [Nat.add_comm, ← List.drop_drop, List.drop_drop, Nat.add_comm, ← List.drop_drop]; exact (List.take_append_drop _ _).symm, h1, h2⟩
theorem lastK {α : Type} {a : Kd α} {w : World} {x : α} {cs : List Value} (o : Nat) (hl : cs.length = o + a.sz) (h1 : a.K w x ((cs.drop o).take a.sz)) : a.K w x (cs.drop o) := by
  rwa [List.take_of_length_le (by rw [List.length_drop]; omega)] at h1
/-- A field of a struct that is read. -/
theorem Rd.field {α : Type} {H : Type} {enc : TypeId × Value → H} {w : World} {n o : Nat} {cs : List Value} {ft : TypeId} {d : Kd α} {G : α → Prop} (hd : Rd P ft d G) (hC : P.cellsOf ft = d.sz) (y : Option (DataW H × List MemPlace)) (hy : y.isSome = true)
    (h : DataW.trod enc P w 0 (fun _ => true) true n ft ((cs.drop o).take (P.cellsOf ft)) = y) : ∃ a, d.K w a ((cs.drop o).take d.sz) ∧ G a := by
  rw [hC] at h
  obtain ⟨z, rfl⟩ := Option.isSome_iff_exists.1 hy
  exact hd H enc w n _ _ h
theorem toArray_of {cs : Array Value} {l : List Value} (h : cs.toList = l) : cs = l.toArray := by rw [← h]
end Go.Proofs.YtjlcbhlpibgplaaDoor.Op
