/- Plain laws of chapter 4: a node over trees is the tree that is made of them. -/
import Derived.Test.YtpggidmpkhmijaaPureB
namespace Go.Proofs.Ytpggidmpkhmijaa.P
open Go.RowKit Go.Proofs.YtpggidmpkhmijaaW.PrintWords Go.Proofs.YtpggidmpkhmijaaW.PrintLast Go.Proofs.YtpggidmpkhmijaaW.PrintMore
set_option linter.unusedVariables false

def OkW (t : S30) : Prop := t.f0.length ≤ 200 ∧ ∀ x ∈ t.f0, x.f4.length ≤ 200
theorem tree_l0w (kids : List S30) (hl : kids.length ≤ 200) (hok : ∀ t ∈ kids, OkW t) (a b c : Int) (s : ByteArray) (rt : Int) : ∀ (d i : Nat) (kacc : List Int) (acc : List S24), i + d = kids.length → kacc.length = i → acc.length ≤ i * 200 →
    Ev (fun k => tree_Over.l0 k kids (kids.length : Int) (i : Int) a b c s kacc acc rt) (ovN (kids.drop i) acc ++ [⟨a, b, c, s, ovR (kids.drop i) acc kacc⟩], ((ovN (kids.drop i) acc).length : Int))
  | 0, i, kacc, acc, hd, hk, ha => by
    rw [List.drop_of_length_le (by omega)]
    refine Ev.step (fun k => by simp only [tree_Over.l0]; rw [if_neg (by omega), if_pos (by omega)]) ?_
    simp only [ovN, ovR]
    exact Ev.now _
  | d + 1, i, kacc, acc, hd, hk, ha => by
    have hi : i < kids.length := by omega
    have ho := hok kids[i] (List.getElem_mem hi)
    rw [List.drop_eq_getElem_cons hi]
    simp only [ovN, ovR]
    refine Ev.step (fun k => by simp only [tree_Over.l0]; rw [if_pos (by omega), if_pos (by omega), if_pos (by omega), rdT30 kids i hi]) ?_
    refine tree_l1 kids kids.length i kids[i].f0 ho.1 ho.2 (acc.length : Int) a b c s kacc (by omega) rt kids[i].f1 _ kids[i].f0.length 0 acc (by omega) (by have := ho.1; omega) ?_
    rw [wrapS i (by omega), List.drop_zero]
    exact tree_l0w kids hl hok a b c s rt d (i + 1) _ _ (by omega) (by simp [hk]) (by have := ho.1; simp; omega)
theorem tree_over_evw (kids : List S30) (hl : kids.length ≤ 200) (hok : ∀ t ∈ kids, OkW t) (a b c : Int) (s : ByteArray) (l4 : List Int) : Ev (fun k => tree_Over.f k a b c s l4 kids) (overS a b c s kids) := by
  unfold tree_Over.f overS
  simpa using tree_l0w kids hl hok a b c s 0 kids.length 0 [] [] (by omega) rfl (by simp)

/-- A tree's nodes and root, as the program has them. -/
def subT (g : RT) : S30 := ⟨RT.flat 0 g, (g.size : Int) - 1⟩
theorem ovN_subs : ∀ (gs : List RT) (acc : List S24), acc.length + RT.sizes gs < 500000 → ovN (gs.map subT) acc = acc ++ RT.flats acc.length gs
  | [], acc, h => by simp [ovN, RT.flats]
  | g :: gs, acc, h => by
    rw [RT.sizes] at h
    have e := flat_shift (acc.length : Int) g 0 acc.length (by omega) (by omega) (by omega)
    have ih := ovN_subs gs (acc ++ RT.flat acc.length g) (by rw [List.length_append, RT.flat_len]; omega)
    rw [List.map_cons, ovN]
    show ovN (gs.map subT) (acc ++ (RT.flat 0 g).map (shN acc.length)) = _
    rw [e, ih, RT.flats, List.length_append, RT.flat_len, List.append_assoc]
theorem ovR_subs : ∀ (gs : List RT) (acc : List S24) (r : List Int), acc.length + RT.sizes gs < 500000 → ovR (gs.map subT) acc r = r ++ RT.roots acc.length gs
  | [], acc, r, h => by simp [ovR, RT.roots]
  | g :: gs, acc, r, h => by
    have hp := RT.size_pos g
    rw [RT.sizes] at h
    have e := flat_shift (acc.length : Int) g 0 acc.length (by omega) (by omega) (by omega)
    have ih := ovR_subs gs (acc ++ RT.flat acc.length g) (r ++ [(acc.length : Int) + g.size - 1]) (by rw [List.length_append, RT.flat_len]; omega)
    rw [List.map_cons, ovR]
    show ovR (gs.map subT) (acc ++ (RT.flat 0 g).map (shN acc.length)) (r ++ [wrap64 ((g.size : Int) - 1 + (acc.length : Int))]) = _
    rw [e, wrap_small (by omega) (by omega), show (g.size : Int) - 1 + (acc.length : Int) = (acc.length : Int) + g.size - 1 from by omega, ih, RT.roots, List.length_append, RT.flat_len, List.append_assoc, List.singleton_append]
theorem over_subs (x : S24) (gs : List RT) (h : RT.sizes gs < 400000) : overS x.f0 x.f1 x.f2 x.f3 (gs.map subT) = (RT.flat 0 (.node x gs), ((RT.node x gs).size : Int) - 1) := by
  unfold overS
  rw [ovN_subs gs [] (by simp; omega), ovR_subs gs [] [] (by simp; omega)]
  simp only [List.nil_append, List.length_nil, RT.flat, RT.flats_len, RT.size]
  rw [show ((RT.sizes gs + 1 : Nat) : Int) - 1 = (RT.sizes gs : Int) from by omega]
theorem sound_big (l : List S24) (r : Int) (h : l.length > 4000) : tree_Sound.f l r = some false := by
  unfold tree_Sound.f
  rw [if_neg (by omega), if_pos (by omega)]
theorem Ev.uniq {α : Type} {f : Nat → Option α} {a b : α} (h : Ev f a) (h' : Ev f b) : a = b := by
  obtain ⟨K, hK⟩ := h
  obtain ⟨K', hK'⟩ := h'
  have := (hK (max K K') (by omega)).symm.trans (hK' (max K K') (by omega))
  exact Option.some.inj this

/-! ### what the law asks of trees -/
def fS (t : S30) : Bool := decide (tree_Sound.f t.f0 t.f1 = some true)
theorem fS_eq (t : S30) : tree_Sound.f t.f0 t.f1 = some (fS t) := by
  unfold fS
  rcases sound_cases t.f0 t.f1 with h | ⟨g, h1, h2, h3⟩
  · rw [h]; rfl
  · rw [h1, h3, sound_flat g h2]; rfl
theorem fS_sub {t : S30} (h : fS t = true) : ∃ g : RT, t = subT g ∧ g.size ≤ 4000 := by
  rcases sound_cases t.f0 t.f1 with h' | ⟨g, h1, h2, h3⟩
  · have := fS_eq t; rw [h', h] at this; cases this
  · exact ⟨g, by unfold subT; rw [← h1, ← h3], h2⟩
theorem good_trees : ∀ kids : List S30, ∃ gs : List RT, kids.filter fS = gs.map subT ∧ ∀ g ∈ gs, g.size ≤ 4000
  | [] => ⟨[], rfl, fun g h => by cases h⟩
  | t :: ts => by
    obtain ⟨gs, h1, h2⟩ := good_trees ts
    cases ht : fS t with
    | false => exact ⟨gs, by rw [List.filter_cons_of_neg (by simp [ht]), h1], h2⟩
    | true =>
      obtain ⟨g, rfl, hg⟩ := fS_sub ht
      exact ⟨g :: gs, by rw [List.filter_cons_of_pos ht, h1, List.map_cons], fun g' h => by rcases List.mem_cons.1 h with rfl | h; exact hg; exact h2 g' h⟩
open Classical in
noncomputable def depS (t : S30) : Int := if h : ∃ v, Ev (fun k => tree_Depth.f k t.f0 t.f1) v then h.choose else 0
theorem depS_ev {g : RT} (hg : g.size ≤ 4000) : depS (subT g) = (g.depth : Int) := by
  have h1 := depth_ev g hg
  unfold depS
  rw [dif_pos ⟨_, h1⟩]
  exact Ev.uniq (Exists.choose_spec (⟨_, h1⟩ : ∃ v, Ev (fun k => tree_Depth.f k (subT g).f0 (subT g).f1) v)) h1
theorem subT_len (gs : List RT) : (((gs.map subT).map fun t => (t.f0.length : Int))).sum = (RT.sizes gs : Int) := by
  induction gs with
  | nil => rfl
  | cons g gs ih => rw [List.map_cons, List.map_cons, List.sum_cons, ih, RT.sizes]; simp only [subT, RT.flat_len]; omega
end Go.Proofs.Ytpggidmpkhmijaa.P
