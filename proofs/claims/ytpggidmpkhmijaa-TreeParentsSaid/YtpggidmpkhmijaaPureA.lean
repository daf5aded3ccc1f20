/- Plain laws of chapter 4: shifts, nodes over trees, trees without places, likeness. -/
import Derived.Test.YtpggidmpkhmijaaPf10
import Derived.Test.YtpggidmpkhmijaaPf11
import Derived.Test.YtpggidmpkhmijaaPf12
import Derived.Test.YtpggidmpkhmijaaPf13
import Derived.Test.YtpggidmpkhmijaaPf14
import Derived.Test.YtpggidmpkhmijaaPf9
import Derived.Test.YtpggidmpkhmijaaRd
namespace Go.Proofs.Ytpggidmpkhmijaa.P
open Go.RowKit Go.Proofs.YtpggidmpkhmijaaW.PrintWords Go.Proofs.YtpggidmpkhmijaaW.PrintLast Go.Proofs.YtpggidmpkhmijaaW.PrintMore
set_option linter.unusedVariables false

theorem wrapS (i : Nat) (h : i < 9223372036854775807) : wrap64 ((i : Int) + 1) = ((i + 1 : Nat) : Int) := by unfold wrap64; omega
theorem wrap_wrap (x : Int) : wrap64 (wrap64 x + 0) = wrap64 x := by unfold wrap64; omega
theorem rdT24 (l : List S24) (i : Nat) (h : i < l.length) : rd_T24 l (i : Int) = l[i] := by simp [rd_T24, h]
theorem rdT30 (l : List S30) (i : Nat) (h : i < l.length) : rd_T30 l (i : Int) = l[i] := by simp [rd_T30, h]
theorem rdN (l : List Int) (i : Nat) (h : i < l.length) : rd l (i : Int) = l[i] := by simp [rd, h]
def shL (a : Int) (l : List Int) : List Int := l.map fun x => wrap64 (x + a)
def shN (a : Int) (x : S24) : S24 := { x with f4 := shL a x.f4 }
theorem ev_iff {α : Type} {c : Prop} [Decidable c] {f g : Nat → Option α} {r : α} (hc : c) (h : Ev f r) : Ev (fun k => if c then f k else g k) r := h.congr (fun k => if_pos hc)
theorem ev_ifn {α : Type} {c : Prop} [Decidable c] {f g : Nat → Option α} {r : α} (hc : ¬ c) (h : Ev g r) : Ev (fun k => if c then f k else g k) r := h.congr (fun k => if_neg hc)

/-! ### shift -/
theorem shift_l0 (at_ : Int) (l : List Int) (hl : l.length < 17592186044416) (a b c : Int) (s : ByteArray) (l4 : List Int) : ∀ (d i : Nat) (acc : List Int), i + d = l.length → acc.length = i →
    Ev (fun k => tree_shift.l0 k at_ acc l (l.length : Int) (i : Int) a b c s l4) (a, b, c, s, acc ++ shL at_ (l.drop i))
  | 0, i, acc, hd, ha => by
    refine Ev.step (fun k => by simp only [tree_shift.l0]; rw [if_neg (by omega)]) ?_
    rw [List.drop_of_length_le (by omega)]
    simp only [shL, List.map_nil, List.append_nil]
    exact Ev.now _
  | d + 1, i, acc, hd, ha => by
    refine Ev.step (fun k => by simp only [tree_shift.l0]; rw [if_pos (by omega), if_pos (by omega), if_pos (by omega), if_pos (by omega), wrapS i (by omega), rdN l i (by omega)]) ?_
    have h := shift_l0 at_ l hl a b c s l4 d (i + 1) (acc ++ [wrap64 (l[i] + at_)]) (by omega) (by simp [ha])
    rw [List.drop_eq_getElem_cons (by omega : i < l.length)]
    simpa only [shL, List.map_cons, List.append_assoc, List.cons_append, List.nil_append] using h
theorem shift_ev (at_ : Int) (x : S24) (hl : x.f4.length < 17592186044416) : Ev (fun k => tree_shift.f k x.f0 x.f1 x.f2 x.f3 x.f4 at_) (x.f0, x.f1, x.f2, x.f3, shL at_ x.f4) := by
  unfold tree_shift.f
  refine ev_iff (by omega) (ev_iff (by omega) ?_)
  simpa using shift_l0 at_ x.f4 hl x.f0 x.f1 x.f2 x.f3 x.f4 x.f4.length 0 [] (by omega) rfl

/-! ### Over: what both come to -/
def ovN : List S30 → List S24 → List S24
  | [], acc => acc
  | k :: ks, acc => ovN ks (acc ++ k.f0.map (shN acc.length))
def ovR : List S30 → List S24 → List Int → List Int
  | [], _, r => r
  | k :: ks, acc, r => ovR ks (acc ++ k.f0.map (shN acc.length)) (r ++ [wrap64 (k.f1 + (acc.length : Int))])
/-- Kids that can be gone through. -/
def OkT (t : S30) : Prop := t.f0.length ≤ 200 ∧ ∀ x ∈ t.f0, x.f4.length ≤ 200 ∧ x.f3.size ≤ 200
def overS (a b c : Int) (s : ByteArray) (kids : List S30) : List S24 × Int := (ovN kids [] ++ [⟨a, b, c, s, ovR kids [] []⟩], ((ovN kids []).length : Int))

theorem tree_l1 (kids : List S30) (n i : Int) (ns : List S24) (hns : ns.length ≤ 200) (hk : ∀ x ∈ ns, x.f4.length ≤ 200) (at_ : Int) (a b c : Int) (s : ByteArray) (kacc : List Int) (hka : kacc.length < 1000) (rt : Int) (r1 : Int) (res : List S24 × Int) :
    ∀ (d j : Nat) (acc : List S24), j + d = ns.length → acc.length + d < 1000000 →
    Ev (fun k => tree_Over.l0 k kids n (wrap64 (i + 1)) a b c s (kacc ++ [wrap64 (r1 + at_)]) (acc ++ (ns.drop j).map (shN at_)) rt) res →
    Ev (fun k => tree_Over.l1 k at_ kids n i ns (ns.length : Int) (j : Int) a b c s kacc acc rt ns r1) res
  | 0, j, acc, hd, ha, h => by
    rw [List.drop_of_length_le (by omega), List.map_nil, List.append_nil] at h
    refine Ev.step (fun k => by simp only [tree_Over.l1]; rw [if_neg (by omega), if_pos (by omega)]) h
  | d + 1, j, acc, hd, ha, h => by
    have hj : j < ns.length := by omega
    rw [List.drop_eq_getElem_cons hj, List.map_cons] at h
    refine Ev.step (f := fun k => (tree_shift.f k ns[j].f0 ns[j].f1 ns[j].f2 ns[j].f3 ns[j].f4 at_).bind fun bt120 => tree_Over.l1 k at_ kids n i ns (ns.length : Int) ((j + 1 : Nat) : Int) a b c s kacc (acc ++ [⟨bt120.1, bt120.2.1, bt120.2.2.1, bt120.2.2.2.1, bt120.2.2.2.2⟩]) rt ns r1)
      (fun k => by simp only [tree_Over.l1]; rw [if_pos (by omega), if_pos (by omega), if_pos (by omega), rdT24 ns j hj, wrapS j (by omega)]; simp only [if_pos (show acc.length < 2199023255552 by omega)]) ?_
    refine Ev.bind (shift_ev at_ ns[j] (by have := hk ns[j] (List.getElem_mem hj); omega)) ?_
    refine tree_l1 kids n i ns hns hk at_ a b c s kacc hka rt r1 res d (j + 1) _ (by omega) (by simp; omega) ?_
    simpa only [shN, List.append_assoc, List.cons_append, List.nil_append] using h
theorem tree_l0 (kids : List S30) (hl : kids.length ≤ 30) (hok : ∀ t ∈ kids, OkT t) (a b c : Int) (s : ByteArray) (rt : Int) : ∀ (d i : Nat) (kacc : List Int) (acc : List S24), i + d = kids.length → kacc.length = i → acc.length ≤ i * 200 →
    Ev (fun k => tree_Over.l0 k kids (kids.length : Int) (i : Int) a b c s kacc acc rt) (ovN (kids.drop i) acc ++ [⟨a, b, c, s, ovR (kids.drop i) acc kacc⟩], ((ovN (kids.drop i) acc).length : Int))
  | 0, i, kacc, acc, hd, hk, ha => by
    rw [List.drop_of_length_le (by omega)]
    refine Ev.step (fun k => by simp only [tree_Over.l0]; rw [if_neg (by omega), if_pos (by omega)]) ?_
    simp only [ovN, ovR]
    exact Ev.now _
  | d + 1, i, kacc, acc, hd, hk, ha => by
    have hi : i < kids.length := by omega
    have ho := hok kids[i] (List.getElem_mem hi)
    rw [List.drop_eq_getElem_cons hi]
    simp only [ovN, ovR]
    refine Ev.step (fun k => by simp only [tree_Over.l0]; rw [if_pos (by omega), if_pos (by omega), if_pos (by omega), rdT30 kids i hi]) ?_
    refine tree_l1 kids kids.length i kids[i].f0 ho.1 (fun x hx => (ho.2 x hx).1) (acc.length : Int) a b c s kacc (by omega) rt kids[i].f1 _ kids[i].f0.length 0 acc (by omega) (by have := ho.1; omega) ?_
    rw [wrapS i (by omega), List.drop_zero]
    exact tree_l0 kids hl hok a b c s rt d (i + 1) _ _ (by omega) (by simp [hk]) (by have := ho.1; simp; omega)
theorem tree_over_ev (kids : List S30) (hl : kids.length ≤ 30) (hok : ∀ t ∈ kids, OkT t) (a b c : Int) (s : ByteArray) (l4 : List Int) : Ev (fun k => tree_Over.f k a b c s l4 kids) (overS a b c s kids) := by
  unfold tree_Over.f overS
  simpa using tree_l0 kids hl hok a b c s 0 kids.length 0 [] [] (by omega) rfl (by simp)

theorem ref_l2 (kids : List S30) (res : List S24 × Int) (nacc : List S24) (hna : nacc.length < 1000000) (kacc : List Int) (i at_ : Int) (j : Nat) (a b c : Int) (s : ByteArray) (l4 : List Int) (x : S24) (hx : x.f4.length ≤ 200) (hj : j < 1000000) :
    ∀ (d m : Nat) (acc : List Int), m + d = x.f4.length → acc.length = m →
    Ev (fun k => runnelref4_Over.l1 k kids (nacc ++ [⟨x.f0, x.f1, x.f2, x.f3, acc ++ shL at_ (x.f4.drop m)⟩]) kacc i at_ ((j + 1 : Nat) : Int) a b c s l4) res →
    Ev (fun k => runnelref4_Over.l2 k kids nacc kacc i at_ (j : Int) acc (m : Int) a b c s l4 x.f0 x.f1 x.f2 x.f3 x.f4) res
  | 0, m, acc, hd, ha, h => by
    rw [List.drop_of_length_le (by omega)] at h
    simp only [shL, List.map_nil, List.append_nil] at h
    refine Ev.step (fun k => by simp only [runnelref4_Over.l2]; rw [if_neg (by omega), if_pos (by omega), wrapS j (by omega)]) h
  | d + 1, m, acc, hd, ha, h => by
    have hm : m < x.f4.length := by omega
    rw [List.drop_eq_getElem_cons hm] at h
    refine Ev.step (fun k => by simp only [runnelref4_Over.l2]; rw [if_pos (by omega), if_pos (by omega), if_pos (by omega), rdN x.f4 m hm, wrapS m (by omega)]) ?_
    refine ref_l2 kids res nacc hna kacc i at_ j a b c s l4 x hx hj d (m + 1) _ (by omega) (by simp [ha]) ?_
    simpa only [shL, List.map_cons, List.append_assoc, List.cons_append, List.nil_append] using h
theorem ref_l1 (kids : List S30) (i : Nat) (hi : i < kids.length) (hi30 : i < 1000) (hns : kids[i].f0.length ≤ 200) (hk : ∀ x ∈ kids[i].f0, x.f4.length ≤ 200) (at_ : Int) (a b c : Int) (s : ByteArray) (l4 : List Int) (kacc : List Int) (hka : kacc.length < 1000) (res : List S24 × Int) :
    ∀ (d j : Nat) (acc : List S24), j + d = kids[i].f0.length → acc.length + d < 100000 →
    Ev (fun k => runnelref4_Over.l0 k kids (acc ++ (kids[i].f0.drop j).map (shN at_)) (kacc ++ [wrap64 (kids[i].f1 + at_)]) ((i + 1 : Nat) : Int) a b c s l4) res →
    Ev (fun k => runnelref4_Over.l1 k kids acc kacc (i : Int) at_ (j : Int) a b c s l4) res
  | 0, j, acc, hd, ha, h => by
    rw [List.drop_of_length_le (by omega), List.map_nil, List.append_nil] at h
    refine Ev.step (fun k => by simp only [runnelref4_Over.l1]; rw [if_pos (by omega), if_pos (by omega), rdT30 kids i hi, if_neg (by omega), if_pos (by omega), wrapS i (by omega)]) h
  | d + 1, j, acc, hd, ha, h => by
    have hj : j < kids[i].f0.length := by omega
    rw [List.drop_eq_getElem_cons hj, List.map_cons] at h
    refine Ev.step (fun k => by simp only [runnelref4_Over.l1]; rw [if_pos (by omega), if_pos (by omega), rdT30 kids i hi, if_pos (by omega), if_pos (by omega), rdT24 _ j hj]) ?_
    refine ref_l2 kids res acc (by omega) kacc i at_ j a b c s l4 kids[i].f0[j] (hk _ (List.getElem_mem hj)) (by omega) _ 0 [] (Nat.zero_add _) rfl ?_
    refine ref_l1 kids i hi hi30 hns hk at_ a b c s l4 kacc hka res d (j + 1) _ (by omega) (by simp; omega) ?_
    simpa only [shN, List.drop_zero, List.append_assoc, List.cons_append, List.nil_append] using h
theorem ref_l0 (kids : List S30) (hl : kids.length ≤ 30) (hok : ∀ t ∈ kids, OkT t) (a b c : Int) (s : ByteArray) (l4 : List Int) : ∀ (d i : Nat) (kacc : List Int) (acc : List S24), i + d = kids.length → kacc.length = i → acc.length ≤ i * 200 →
    Ev (fun k => runnelref4_Over.l0 k kids acc kacc (i : Int) a b c s l4) (ovN (kids.drop i) acc ++ [⟨a, b, c, s, ovR (kids.drop i) acc kacc⟩], ((ovN (kids.drop i) acc).length : Int))
  | 0, i, kacc, acc, hd, hk, ha => by
    rw [List.drop_of_length_le (by omega)]
    refine Ev.step (fun k => by simp only [runnelref4_Over.l0]; rw [if_neg (by omega), if_pos (by omega)]) ?_
    simp only [ovN, ovR]
    exact Ev.now _
  | d + 1, i, kacc, acc, hd, hk, ha => by
    have hi : i < kids.length := by omega
    have ho := hok kids[i] (List.getElem_mem hi)
    rw [List.drop_eq_getElem_cons hi]
    simp only [ovN, ovR]
    refine Ev.step (fun k => by simp only [runnelref4_Over.l0]; rw [if_pos (by omega)]) ?_
    refine ref_l1 kids i hi (by omega) ho.1 (fun x hx => (ho.2 x hx).1) (acc.length : Int) a b c s l4 kacc (by omega) _ kids[i].f0.length 0 acc (by omega) (by have := ho.1; omega) ?_
    rw [List.drop_zero]
    exact ref_l0 kids hl hok a b c s l4 d (i + 1) _ _ (by omega) (by simp [hk]) (by have := ho.1; simp; omega)
theorem ref_over_ev (kids : List S30) (hl : kids.length ≤ 30) (hok : ∀ t ∈ kids, OkT t) (a b c : Int) (s : ByteArray) (l4 : List Int) : Ev (fun k => runnelref4_Over.f k a b c s l4 kids) (overS a b c s kids) := by
  unfold runnelref4_Over.f overS
  simpa using ref_l0 kids hl hok a b c s l4 kids.length 0 [] [] (by omega) rfl (by simp)

/-! ### Bare -/
def bareN (x : S24) : S24 := { x with f2 := 0 }
theorem tree_bare_l0 (ns : List S24) (hn : ns.length < 1000000) (hk : ∀ x ∈ ns, x.f4.length < 1000000) (rt : Int) : ∀ (d i : Nat) (acc : List S24), i + d = ns.length → acc.length = i →
    Ev (fun k => tree_Bare.l0 k ns (ns.length : Int) (i : Int) acc rt) (acc ++ (ns.drop i).map (fun x => shN 0 (bareN x)), rt)
  | 0, i, acc, hd, ha => by
    rw [List.drop_of_length_le (by omega), List.map_nil, List.append_nil]
    exact Ev.step (fun k => by simp only [tree_Bare.l0]; rw [if_neg (by omega)]) (Ev.now _)
  | d + 1, i, acc, hd, ha => by
    have hi : i < ns.length := by omega
    refine Ev.step (f := fun k => (tree_shift.f k ns[i].f0 ns[i].f1 0 ns[i].f3 ns[i].f4 0).bind fun bt => tree_Bare.l0 k ns (ns.length : Int) ((i + 1 : Nat) : Int) (acc ++ [⟨bt.1, bt.2.1, bt.2.2.1, bt.2.2.2.1, bt.2.2.2.2⟩]) rt)
      (fun k => by simp only [tree_Bare.l0]; rw [if_pos (by omega), if_pos (by omega), if_pos (by omega), rdT24 ns i hi, wrapS i (by omega)]; simp only [if_pos (show acc.length < 2199023255552 by omega)]) ?_
    refine Ev.bind (shift_ev 0 (bareN ns[i]) (by have := hk ns[i] (List.getElem_mem hi); simp only [bareN]; omega)) ?_
    have h := tree_bare_l0 ns hn hk rt d (i + 1) (acc ++ [shN 0 (bareN ns[i])]) (by omega) (by simp [ha])
    rw [List.drop_eq_getElem_cons hi, List.map_cons]
    rw [List.append_assoc, List.cons_append, List.nil_append] at h
    exact h
theorem ref_bare_l0 (ns : List S24) (hn : ns.length < 1000000) (hk : ∀ x ∈ ns, x.f4.length < 1000000) (rt : Int) : ∀ (d i : Nat) (acc : List S24), i + d = ns.length → acc.length = i →
    Ev (fun k => runnelref4_Bare.l0 k acc (i : Int) ns rt) (acc ++ (ns.drop i).map bareN, rt)
  | 0, i, acc, hd, ha => by
    rw [List.drop_of_length_le (by omega), List.map_nil, List.append_nil]
    exact Ev.step (fun k => by simp only [runnelref4_Bare.l0]; rw [if_neg (by omega)]) (Ev.now _)
  | d + 1, i, acc, hd, ha => by
    have hi : i < ns.length := by omega
    have hki := hk ns[i] (List.getElem_mem hi)
    refine Ev.step (f := fun k => runnelref4_Bare.l0 k (acc ++ [bareN ns[i]]) ((i + 1 : Nat) : Int) ns rt)
      (fun k => by simp only [runnelref4_Bare.l0, Option.bind_some, List.nil_append, List.length_nil]; rw [if_pos (by omega), if_pos (by omega), rdT24 ns i hi, if_pos (by omega), if_pos (by omega), wrapS i (by omega)]; rfl) ?_
    have h := ref_bare_l0 ns hn hk rt d (i + 1) (acc ++ [bareN ns[i]]) (by omega) (by simp [ha])
    rw [List.drop_eq_getElem_cons hi, List.map_cons]
    simpa only [List.append_assoc, List.cons_append, List.nil_append] using h
theorem tree_bare_ev (ns : List S24) (rt : Int) (hn : ns.length < 1000000) (hk : ∀ x ∈ ns, x.f4.length < 1000000) : Ev (fun k => tree_Bare.f k ns rt) (ns.map (fun x => shN 0 (bareN x)), rt) := by
  unfold tree_Bare.f
  simpa using tree_bare_l0 ns hn hk rt ns.length 0 [] (by omega) rfl
theorem ref_bare_ev (ns : List S24) (rt : Int) (hn : ns.length < 1000000) (hk : ∀ x ∈ ns, x.f4.length < 1000000) : Ev (fun k => runnelref4_Bare.f k ns rt) (ns.map bareN, rt) := by
  unfold runnelref4_Bare.f
  simpa using ref_bare_l0 ns hn hk rt ns.length 0 [] (by omega) rfl

/-! ### like: two that are the same -/
theorem sameInts_l0 (l : List Int) (hl : l.length < 1000000) : ∀ (d i : Nat), i + d = l.length → Ev (fun k => runnellaw4_sameInts.l0 k l l (i : Int)) true
  | 0, i, hd => Ev.step (fun k => by simp only [runnellaw4_sameInts.l0]; rw [if_neg (by omega)]) (Ev.now _)
  | d + 1, i, hd => Ev.step (fun k => by simp only [runnellaw4_sameInts.l0]; rw [if_pos (by omega), if_pos (by omega), if_pos (by omega), if_pos trivial, wrapS i (by omega)]) (sameInts_l0 l hl d (i + 1) (by omega))
theorem sameInts_ev (l : List Int) (hl : l.length < 1000000) : Ev (fun k => runnellaw4_sameInts.f k l l) true := by
  unfold runnellaw4_sameInts.f
  exact ev_iff rfl (by simpa using sameInts_l0 l hl l.length 0 (by omega))
theorem like_l0 (ns : List S24) (rt : Int) (hn : ns.length < 1000000) (hk : ∀ x ∈ ns, x.f4.length < 1000000) : ∀ (d i : Nat), i + d = ns.length → Ev (fun k => runnellaw4_like.l0 k (i : Int) ns rt ns rt) true
  | 0, i, hd => Ev.step (fun k => by simp only [runnellaw4_like.l0]; rw [if_neg (by omega)]) (Ev.now _)
  | d + 1, i, hd => by
    have hi : i < ns.length := by omega
    refine Ev.step (fun k => by simp only [runnellaw4_like.l0]; rw [if_pos (by omega), if_pos (by omega), if_pos (by omega), if_pos trivial, if_pos trivial, if_pos trivial, if_pos trivial, rdT24 ns i hi, wrapS i (by omega)]) ?_
    refine Ev.bind (sameInts_ev _ (hk _ (List.getElem_mem hi))) ?_
    exact ev_iff rfl (like_l0 ns rt hn hk d (i + 1) (by omega))
theorem like_ev (ns : List S24) (rt : Int) (hn : ns.length < 1000000) (hk : ∀ x ∈ ns, x.f4.length < 1000000) : Ev (fun k => runnellaw4_like.f k ns rt ns rt) true := by
  unfold runnellaw4_like.f
  refine ev_iff rfl ?_
  rw [show (rt != rt) = false from by simp]
  refine Ev.step (fun k => by simp only [runnellaw4_like.j0]; rw [if_neg (by simp)]) ?_
  simpa using like_l0 ns rt hn hk ns.length 0 (by omega)

/-! ### small -/
def OkTb (t : S30) : Bool := decide (t.f0.length ≤ 200) && t.f0.all fun x => decide (x.f4.length ≤ 200) && decide (x.f3.size ≤ 200)
theorem okTb (t : S30) : OkTb t = true ↔ OkT t := by simp [OkTb, OkT]
def smallS (l : List S30) : Bool := decide (l.length ≤ 30) && l.all OkTb
theorem small_l1 (l : List S30) (i : Nat) (hi : i < l.length) (hi30 : i < 1000) (hn : l[i].f0.length ≤ 200) (q : Bool) (h : Ev (fun k => runnellaw4_small.l0 k l ((i + 1 : Nat) : Int)) q) : ∀ (d j : Nat), j + d = l[i].f0.length →
    Ev (fun k => runnellaw4_small.l1 k l (i : Int) (j : Int)) (((l[i].f0.drop j).all fun x => decide (x.f4.length ≤ 200) && decide (x.f3.size ≤ 200)) && q)
  | 0, j, hd => by
    rw [List.drop_of_length_le (by omega)]
    simp only [List.all_nil, Bool.true_and]
    exact Ev.step (fun k => by simp only [runnellaw4_small.l1]; rw [if_pos (by omega), if_pos (by omega), rdT30 l i hi, if_neg (by omega), wrapS i (by omega)]) h
  | d + 1, j, hd => by
    have hj : j < l[i].f0.length := by omega
    rw [List.drop_eq_getElem_cons hj, List.all_cons]
    by_cases h1 : l[i].f0[j].f4.length ≤ 200
    · by_cases h2 : l[i].f0[j].f3.size ≤ 200
      · simp only [h1, h2, decide_true, Bool.true_and]
        exact Ev.step (fun k => by simp only [runnellaw4_small.l1]; rw [if_pos (by omega), if_pos (by omega), rdT30 l i hi, if_pos (by omega), if_pos (by omega), rdT24 _ j hj, if_neg (by omega), if_neg (by omega), wrapS j (by omega)]) (small_l1 l i hi hi30 hn q h d (j + 1) (by omega))
      · simp only [h1, h2, decide_true, decide_false, Bool.and_false, Bool.false_and]
        exact Ev.step (fun k => by simp only [runnellaw4_small.l1]; rw [if_pos (by omega), if_pos (by omega), rdT30 l i hi, if_pos (by omega), if_pos (by omega), rdT24 _ j hj, if_neg (by omega), if_pos (by omega)]) (Ev.now _)
    · simp only [h1, decide_false, Bool.false_and]
      exact Ev.step (fun k => by simp only [runnellaw4_small.l1]; rw [if_pos (by omega), if_pos (by omega), rdT30 l i hi, if_pos (by omega), if_pos (by omega), rdT24 _ j hj, if_pos (by omega)]) (Ev.now _)
theorem small_l0 (l : List S30) (hl : l.length ≤ 30) : ∀ (d i : Nat), i + d = l.length → Ev (fun k => runnellaw4_small.l0 k l (i : Int)) ((l.drop i).all OkTb)
  | 0, i, hd => by
    rw [List.drop_of_length_le (by omega), List.all_nil]
    exact Ev.step (fun k => by simp only [runnellaw4_small.l0]; rw [if_neg (by omega)]) (Ev.now _)
  | d + 1, i, hd => by
    have hi : i < l.length := by omega
    rw [List.drop_eq_getElem_cons hi, List.all_cons]
    by_cases hn : l[i].f0.length ≤ 200
    · refine Ev.step (fun k => by simp only [runnellaw4_small.l0]; rw [if_pos (by omega), if_pos (by omega), rdT30 l i hi, if_neg (by omega)]) ?_
      have := small_l1 l i hi (by omega) hn _ (small_l0 l hl d (i + 1) (by omega)) l[i].f0.length 0 (by omega)
      rw [List.drop_zero] at this
      simp only [OkTb, hn, decide_true, Bool.true_and]
      exact this
    · simp only [OkTb, hn, decide_false, Bool.false_and]
      exact Ev.step (fun k => by simp only [runnellaw4_small.l0]; rw [if_pos (by omega), if_pos (by omega), rdT30 l i hi, if_pos (by omega)]) (Ev.now _)
theorem small_ev (l : List S30) : Ev (fun k => runnellaw4_small.f k l) (smallS l) := by
  unfold runnellaw4_small.f smallS
  by_cases h : l.length ≤ 30
  · simp only [h, decide_true, Bool.true_and]
    exact ev_ifn (by omega) (by simpa using small_l0 l h l.length 0 (by omega))
  · simp only [h, decide_false, Bool.false_and]
    exact ev_iff (by omega) (Ev.now _)
theorem smallS_ok {l : List S30} (h : smallS l = true) : l.length ≤ 30 ∧ ∀ t ∈ l, OkT t := by
  simp only [smallS, Bool.and_eq_true, decide_eq_true_eq, List.all_eq_true] at h
  exact ⟨h.1, fun t ht => (okTb t).1 (h.2 t ht)⟩
end Go.Proofs.Ytpggidmpkhmijaa.P
