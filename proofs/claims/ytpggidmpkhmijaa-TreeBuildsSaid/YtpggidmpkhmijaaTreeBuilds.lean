/- chapter 4: a sound tree is what its root is over the trees of its kids; over sound trees a node makes a sound tree: TreeBuilds answers true for every tree, node and trees. No condition. -/
import Derived.Test.YtpggidmpkhmijaaPureC
import Derived.Test.YtpggidmpkhmijaaHBuilds
import Derived.Test.YtpggidmpkhmijaaTreeDepths
namespace Go.Proofs.Ytpggidmpkhmijaa.P
open Go.RowKit Go.Proofs.YtpggidmpkhmijaaW.PrintWords Go.Proofs.YtpggidmpkhmijaaW.PrintLast Go.Proofs.YtpggidmpkhmijaaW.PrintMore
set_option linter.unusedVariables false
theorem manyF_eq (f : S30 → Bool) : ∀ (kids : List S30) (m : Int), manyF f kids m = m + (((kids.filter f).map fun t => (t.f0.length : Int))).sum
  | [], m => by simp [manyF]
  | t :: ts, m => by
    rw [manyF, manyF_eq f ts]
    cases h : f t with
    | true => rw [List.filter_cons_of_pos h, List.map_cons, List.sum_cons, if_pos rfl]; omega
    | false => rw [List.filter_cons_of_neg (by simp [h])]; simp
theorem deepF_eq (f : S30 → Bool) (dep : S30 → Int) : ∀ (kids : List S30) (gs : List RT) (d : Nat), kids.filter f = gs.map subT → (∀ g ∈ gs, dep (subT g) = (g.depth : Int)) → deepF f dep kids (d : Int) = ((max d (RT.depths gs) : Nat) : Int)
  | [], gs, d, h, hd => by
    cases gs with
    | nil => simp [deepF, RT.depths]
    | cons g gs => simp at h
  | t :: ts, gs, d, h, hd => by
    rw [deepF]
    cases hf : f t with
    | false =>
      rw [List.filter_cons_of_neg (by simp [hf])] at h
      rw [if_neg (by simp)]
      exact deepF_eq f dep ts gs d h hd
    | true =>
      rw [List.filter_cons_of_pos hf] at h
      cases gs with
      | nil => simp at h
      | cons g gs =>
        rw [List.map_cons] at h
        obtain ⟨h1, h2⟩ := List.cons.inj h
        rw [if_pos rfl, h1, hd g (by simp), mx_max, deepF_eq f dep ts gs _ h2 (fun g' h' => hd g' (by simp [h'])), RT.depths, Nat.max_assoc]
theorem sum_le (kids : List S30) (h : ∀ t ∈ kids, t.f0.length ≤ 200) (f : S30 → Bool) : (((kids.filter f).map fun t => (t.f0.length : Int))).sum ≤ 200 * (kids.length : Int) := by
  induction kids with
  | nil => simp
  | cons t ts ih =>
    have h1 := h t (by simp)
    have h2 := ih (fun t' h' => h t' (by simp [h']))
    cases hf : f t with
    | true => rw [List.filter_cons_of_pos hf, List.map_cons, List.sum_cons, List.length_cons]; omega
    | false => rw [List.filter_cons_of_neg (by simp [hf]), List.length_cons]; omega
theorem ev_mem {α : Type} {P : α → Nat → Prop} : ∀ l : List α, (∀ t ∈ l, ∃ K, ∀ k, K ≤ k → P t k) → ∃ K, ∀ k, K ≤ k → ∀ t ∈ l, P t k
  | [], _ => ⟨0, fun k _ t h => by cases h⟩
  | a :: l, h => by
    obtain ⟨K, hK⟩ := ev_mem l (fun t ht => h t (by simp [ht]))
    obtain ⟨K', hK'⟩ := h a (by simp)
    exact ⟨max K K', fun k hk t ht => by rcases List.mem_cons.1 ht with rfl | ht; exact hK' k (by omega); exact hK k (by omega) t ht⟩
theorem flat_kids_size (T : RT) : ∀ x ∈ RT.flat 0 T, x.f4.length ≤ T.size := by
  intro x hx
  obtain ⟨i, hi, rfl⟩ := List.mem_iff_getElem.1 hx
  have hi' : i < T.size := by rwa [RT.flat_len] at hi
  have hat : AtT (RT.flat 0 T) 0 T := by unfold AtT; rw [List.drop_zero, ← RT.flat_len 0 T, List.take_length]
  obtain ⟨t, o', hs, _⟩ := subAt (RT.flat 0 T) T 0 i hat hi'
  have hroot := hs.root
  have hle := hs.at_.le
  rw [RT.flat_len] at hle
  cases t with
  | node y ks =>
    obtain ⟨_, hl, hx⟩ := hs.at_.kids
    rw [RT.size] at hroot
    have he : o' + RT.sizes ks = i := by omega
    simp only [he] at hx
    rw [hx]
    simp only [RT.roots_len]
    have := kids_le_sizes ks
    rw [RT.size] at hle
    omega
/-- The second half: over the trees that are sound. -/
theorem good_facts (kids : List S30) (x : S24) (hk : kids.length ≤ 30) (hok : ∀ t ∈ kids, OkT t) : ∃ (o2 : List S24) (r2 d2 : Int),
    Ev (fun k => tree_Over.f k x.f0 x.f1 x.f2 x.f3 x.f4 (kids.filter fS)) (o2, r2) ∧ (o2.length : Int) = manyF fS kids 1 ∧ tree_Sound.f o2 r2 = some (decide (manyF fS kids 1 ≤ 4000)) ∧
    Ev (fun k => tree_Depth.f k o2 r2) d2 ∧ (manyF fS kids 1 > 4000 ∨ d2 = deepF fS depS kids 0 + 1) ∧ (0 ≤ deepF fS depS kids 0 ∧ deepF fS depS kids 0 ≤ 100000) := by
  obtain ⟨gs, h1, h2⟩ := good_trees kids
  have hm : manyF fS kids 1 = 1 + (RT.sizes gs : Int) := by rw [manyF_eq, h1, subT_len]
  have hs : (RT.sizes gs : Int) ≤ 6000 := by
    have := sum_le kids (fun t ht => (hok t ht).1) fS
    rw [h1, subT_len] at this
    omega
  have hd : deepF fS depS kids 0 = (RT.depths gs : Int) := by
    have := deepF_eq fS depS kids gs 0 h1 (fun g hg => depS_ev (h2 g hg))
    simpa using this
  have hov : Ev (fun k => tree_Over.f k x.f0 x.f1 x.f2 x.f3 x.f4 (kids.filter fS)) (RT.flat 0 (.node x gs), ((RT.node x gs).size : Int) - 1) := by
    rw [← over_subs x gs (by omega), ← h1]
    refine tree_over_ev _ ?_ (fun t ht => hok t (List.mem_filter.1 ht).1) _ _ _ _ _
    exact Nat.le_trans (List.length_filter_le _ _) hk
  have hdd := depths_le_sizes gs
  have hsz : ((RT.node x gs).size : Int) = RT.sizes gs + 1 := by rw [RT.size]; omega
  by_cases hb : RT.sizes gs + 1 ≤ 4000
  · have hT : (RT.node x gs).size ≤ 4000 := by omega
    refine ⟨_, _, ((RT.node x gs).depth : Int), hov, by rw [RT.flat_len]; omega, ?_, depth_ev _ hT, .inr ?_, by omega⟩
    · rw [sound_flat _ hT, decide_eq_true (by omega)]
    · rw [hd, RT.depth]; omega
  · have hS := sound_big (RT.flat 0 (.node x gs)) (((RT.node x gs).size : Int) - 1) (by rw [RT.flat_len]; omega)
    refine ⟨_, _, 0, hov, by rw [RT.flat_len]; omega, ?_, depth_no _ _ hS, .inl (by omega), by omega⟩
    rw [hS, decide_eq_false (by omega)]
theorem TreeBuilds_calls (b : BArgs) (w : World) (R : BReads w b) : Calls Try.prog 4 b.vals w fun e w' => e = .returned (.bool true) ∧ Below w.heap.size w w' := by
  obtain ⟨K0, h0⟩ := small_ev [⟨b.l, b.root⟩]
  obtain ⟨K1, h1⟩ := small_ev b.kids
  by_cases hall : smallS [⟨b.l, b.root⟩] = true ∧ smallS b.kids = true ∧ b.n.f3.size ≤ 200
  case neg =>
    refine TreeBuilds_out b (max K0 K1) _ _ w R (h0 _ (by omega)) (h1 _ (by omega)) ?_
    cases hx : smallS [⟨b.l, b.root⟩] <;> cases hy : smallS b.kids <;> simp [hx, hy] at hall ⊢ <;> omega
  obtain ⟨hs1, hs2, htx⟩ := hall
  rw [hs1] at h0
  rw [hs2] at h1
  obtain ⟨hkl, hok⟩ := smallS_ok hs2
  obtain ⟨o2, r2, d2, ⟨K2, e2⟩, g1, g2, ⟨K3, e3⟩, g4, g5⟩ := good_facts b.kids b.n hkl hok
  obtain ⟨K4, e4⟩ := ev_mem (P := fun t k => fS t = true → tree_Depth.f k t.f0 t.f1 = some (depS t)) b.kids (fun t ht => by
    cases hf : fS t with
    | false => exact ⟨0, fun k _ h => by cases h⟩
    | true =>
      obtain ⟨g, rfl, hg⟩ := fS_sub hf
      obtain ⟨K, hK⟩ := depth_ev g hg
      refine ⟨K, fun k hk _ => ?_⟩
      rw [depS_ev hg]
      exact hK k hk)
  rcases sound_cases b.l b.root with hS | ⟨T, hl, hT, hr⟩
  · refine TreeBuilds_in b (max K0 (max K1 (max K2 (max K3 K4)))) false [] 0 [] 0 fS depS o2 r2 d2 w R
      ⟨h0 _ (by omega), h1 _ (by omega), htx, hS, ?_, ?_, ?_, ?_, ?_, ?_, ?_, ?_, hkl, fun t ht => (hok t ht).1, fun t ht => fS_eq t, fun t ht hf => e4 _ (by omega) t ht hf, e2 _ (by omega), g1, g2, e3 _ (by omega), g4, g5⟩ <;> (intro h; cases h)
  · have h200 := (small_one hs1).1
    rw [hl, RT.flat_len] at h200
    cases T with
    | node x ks =>
      have hat : AtT (RT.flat 0 (.node x ks)) 0 (.node x ks) := by unfold AtT; rw [List.drop_zero, ← RT.flat_len 0 (.node x ks), List.take_length]
      have hnd : rd_T24 b.l b.root = { x with f4 := RT.roots 0 ks } := by
        have := mem_flat_at hat
        rw [show ((0 : Nat) : Int) + ((RT.node x ks).size : Int) - 1 = b.root from by omega, ← hl] at this
        exact this
      have hF := hat.kids.1
      have hsz : (RT.node x ks).size = RT.sizes ks + 1 := rfl
      have hkk := kids_le_sizes ks
      have hfl := RT.flat_len 0 (.node x ks)
      obtain ⟨K5, e5⟩ := ev_all (P := fun j k (r : Unit) => ∀ hj : j < ks.length, tree_Sub.f k b.l b.root ((RT.roots 0 ks)[j]'(by rw [RT.roots_len]; exact hj)) = some (RT.flat 0 ks[j], (ks[j].size : Int) - 1) ∧ tree_Depth.f k (RT.flat 0 ks[j]) ((ks[j].size : Int) - 1) = some (ks[j].depth : Int)) ks.length (fun j hj => by
        obtain ⟨o', a1, a2, a3⟩ := roots_get ks 0 j hj (RT.flat 0 (.node x ks)) hF (Nat.zero_le _)
        have hle := a1.le
        rw [hfl] at hle
        have hjp := RT.size_pos ks[j]
        have hsub := sub_at (.node x ks) hT ks[j] o' a1
        obtain ⟨Ka, ha⟩ := sub_ev (.node x ks) hT ks[j] o' (o' + ks[j].size - 1) (by omega) hsub
        obtain ⟨Kb, hb⟩ := depth_ev ks[j] (by omega)
        refine ⟨(), max Ka Kb, fun k hk hj' => ⟨?_, hb k (by omega)⟩⟩
        rw [a3, hl, hr]
        have := ha k (by omega)
        rw [show ((o' + ks[j].size - 1 : Nat) : Int) = (o' : Int) + (ks[j].size : Int) - 1 from by omega] at this
        exact this)
      obtain ⟨K6, e6⟩ := depth_ev (.node x ks) hT
      obtain ⟨K7, e7⟩ := tree_over_evw (ks.map subT) (by simp; omega) (fun t ht => by
        obtain ⟨g, hg, rfl⟩ := List.mem_map.1 ht
        have := RT.sizes_le hg
        refine ⟨by simp only [subT, RT.flat_len]; omega, fun y hy => ?_⟩
        have := flat_kids_size g y hy
        omega) x.f0 x.f1 x.f2 x.f3 (RT.roots 0 ks)
      rw [over_subs x ks (by omega)] at e7
      obtain ⟨K8, e8⟩ := like_ev b.l b.root (by rw [hl, hfl]; omega) (fun y hy => by have := (small_one hs1).2 y hy; omega)
      refine TreeBuilds_in b (max K0 (max K1 (max K2 (max K3 (max K4 (max K5 (max K6 (max K7 K8)))))))) true (ks.map subT) ((RT.node x ks).depth : Int) (RT.flat 0 (.node x ks)) (((RT.node x ks).size : Int) - 1) fS depS o2 r2 d2 w R
        ⟨h0 _ (by omega), h1 _ (by omega), htx, by rw [hl, hr, sound_flat _ hT], fun _ => by omega, fun _ => by rw [hl, hfl]; omega, fun _ => by rw [hnd]; simp only [RT.roots_len]; omega, fun _ => by rw [hnd]; simp only [RT.roots_len, List.length_map], fun _ => ?_, fun _ => by rw [hl, hr]; exact e6 _ (by omega), fun _ => by rw [hnd]; exact e7 _ (by omega), fun _ => by rw [← hl, ← hr]; exact e8 _ (by omega), hkl, fun t ht => (hok t ht).1, fun t ht => fS_eq t, fun t ht hf => e4 _ (by omega) t ht hf, e2 _ (by omega), g1, g2, e3 _ (by omega), g4, g5⟩
      intro j hj hj'
      rw [List.length_map] at hj
      obtain ⟨_, q⟩ := e5 (max K0 (max K1 (max K2 (max K3 (max K4 (max K5 (max K6 (max K7 K8)))))))) (by omega) j hj
      obtain ⟨q1, q2⟩ := q hj
      have hgj : ks[j].size ≤ 4000 := by have := RT.sizes_le (List.getElem_mem hj); omega
      have hdj := RT.depths_le (List.getElem_mem hj)
      simp only [hnd] at hj' ⊢
      refine ⟨?_, ?_, (ks[j].depth : Int), ?_, by rw [RT.depth]; omega⟩
      · simp only [List.getElem_map, subT]; exact q1
      · simp only [List.getElem_map, subT]; exact sound_flat _ hgj
      · simp only [List.getElem_map, subT]; exact q2
theorem TreeBuilds_row (A : Option Addr) (c : Nat) (l : List S24) (root : Int) (f0 f1 f2 : Int) (f3 : ByteArray) (An : Option Addr) (cn : Nat) (f4 : List Int) (Ak : Option Addr) (ck : Nat) (kids : List S30) (w : World)
    (hr : Kd.C k24 w A l.length l) (hc : l.length ≤ c) (hr1 : Kd.C (Kd.int .i64) w An f4.length f4) (hc1 : f4.length ≤ cn) (hr2 : Kd.C k30 w Ak kids.length kids) (hc2 : kids.length ≤ ck) :
    Calls Try.prog 4 #[.agg #[.slice A l.length c, .int .i64 root], .agg #[.int .i64 f0, .int .i64 f1, .int .i64 f2, .string f3, .slice An f4.length cn], .slice Ak kids.length ck] w fun e w' => e = .returned (.bool true) ∧ Below w.heap.size w w' :=
  TreeBuilds_calls ⟨A, c, l, root, ⟨f0, f1, f2, f3, f4⟩, An, cn, Ak, ck, kids⟩ w ⟨hr, hc, hr1, hc1, hr2, hc2⟩
end Go.Proofs.Ytpggidmpkhmijaa.P
