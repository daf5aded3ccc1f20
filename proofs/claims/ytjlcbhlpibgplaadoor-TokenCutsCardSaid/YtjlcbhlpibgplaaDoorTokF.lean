/- token: Cut. -/
import Derived.Test.YtjlcbhlpibgplaaDoorTokE
namespace Go.Proofs.YtjlcbhlpibgplaaDoor.P
open Go.RowKit Go.Proofs.YtjlcbhlpibgplaaDoorW.PrintWords Go.Proofs.YtjlcbhlpibgplaaDoorW.PrintLast Go.Proofs.YtjlcbhlpibgplaaDoorW.PrintMore
set_option linter.unusedVariables false
set_option linter.unusedSimpArgs false
def blanksT : ByteArray := ⟨#[32, 9, 10]⟩
/-- Cut, behind i with what was cut. -/
def cutN (s : ByteArray) : Nat → Nat → List S30 → List S30 × Int × Int
  | 0, _, _ => ([], 0, 0)
  | n + 1, i, l =>
    if h : i < s.size then
      if i < runTo (hasB blanksT) s i then cutN s n (runTo (hasB blanksT) s i) l
      else if s[i] = 35 then cutN s n (runTo (fun c => c != 10) s i) l
      else if i < runTo (hasB partsT) s i then
        if wordK (s.extract i (runTo (hasB partsT) s i)) = 0 then ([], (i : Int), 2)
        else cutN s n (runTo (hasB partsT) s i) (l ++ [⟨wordK (s.extract i (runTo (hasB partsT) s i)), wordV (s.extract i (runTo (hasB partsT) s i)), i, s.extract i (runTo (hasB partsT) s i)⟩])
      else if signN (s.extract i s.size) = 0 then ([], (i : Int), 2)
      else cutN s n (i + signN (s.extract i s.size)) (l ++ [⟨3, 0, i, s.extract i (i + signN (s.extract i s.size))⟩])
    else (l ++ [⟨5, 0, s.size, ⟨#[]⟩⟩], 0, 0)
def cutR (s : ByteArray) : List S30 × Int × Int := if 20000 < s.size then ([], 0, 7) else cutN s (s.size + 1) 0 []
def Stp (p : Prop) : Prop := p
theorem Stp.out {p : Prop} (h : Stp p) : p := h
/-- The two boxes. -/
def Box1 (w : World) (s : ByteArray) (w' : World) : Prop := w'.heap[w.heap.size]? = some (.cells #[.string s] 9 (0, 0))
def Box6 (w : World) (i : Nat) (w' : World) : Prop := w'.heap[w.heap.size + 1]? = some (.cells #[.int .i64 i] 3 (0, 0))
/-- Where the walk stands ahead of a round. -/
def CutRel (w : World) (s : ByteArray) (r : List S30 × Int × Int) (n : Nat) (v : Value) (w' : World) : Prop :=
  ∃ (i : Nat) (l : List S30), Hid (cutN s n i l = r) ∧ Hid (s.size < n + i) ∧ i ≤ s.size ∧ Hid (l.length ≤ i) ∧ Hid (Kd.R k30 30 w' (w.heap.size + 2) (fun _ => True) v l) ∧ Hid (Box1 w s w') ∧ Hid (Box6 w i w') ∧ Hid (Below w.heap.size w w')
section
open Go.Proofs.YtjlcbhlpibgplaaDoorW.PrintLast
variable {P : Program} {ops : Array Oper} {Q : Exit → Act → World → Prop}
/-- A call of a function value. -/
theorem goesC_ {oi : Oper} {N : Option Tmp} {a : Act} {w : World} {K : Act → World → Prop} {f : FuncId} {fn : Func} {t : Tmp} {cap : Array Value} {xs_ : Array Operand} {ts : Array TypeId} (hf : P.funcs[f]? = some fn) (hname : (fn.name == "runtime.NumGoroutine") = false) (hb : fn.body.isSome = true) (args : Array Value)
    (hw : Region.wanted oi (yielded ops a.tmps) = true) (hN : oi.dst = N) (hop : oi.op = .call { callee := .value (.tmp t), args := xs_, argTypes := ts }) (ho : a.tmps.getD t undef = .func (.func f) #[] cap) (hargs : xs_.map a.eval ++ cap = args)
    (h : Calls P f args w fun e w' => ∃ v, e = .returned v ∧ K (a.put N v) w') : if Region.wanted oi (yielded ops a.tmps) = true then Oper.wp P oi a w K Q else K (a.put N undef) w := by
  refine call_ f args hw hN ?_ h
  have he := enters_ hf hname hb args w
  unfold execOp
  have ho2 : a.tmps[t]?.getD undef = .func (.func f) #[] cap := by rw [← ho]; simp
  have ha2 : Array.map (Act.eval a) xs_ ++ cap = args := hargs
  simp only [hop, resolve, Deferred.ofValue, invoke]
  simp only [Act.eval, Array.getD_eq_getD_getElem?, ho2]
  simp [Act.eval, ← hargs] at he ⊢
  exact he
end
theorem u8_ne {c d : UInt8} (h : ¬ c = d) : ¬ (c.toNat : Int) = (d.toNat : Int) := fun e => h (UInt8.toNat_inj.1 (by omega))
theorem sign_le (s : ByteArray) (h : 0 < s.size) : signN s ≤ s.size := by
  unfold signN
  split
  · rename_i hp
    have : 1 < s.size := by
      simp only [pairB, Bool.and_eq_true, decide_eq_true_eq] at hp
      exact hp.1.1.1
    omega
  · split <;> omega
theorem cell_alloc_old {w : World} {o : Obj} {p : Addr} {v : Value} (h : w.cell? p = some v) : (w.alloc o).cell? p = some v := pw_cell_below (below_alloc (Below.refl w.heap.size w) o) h
/-- Inside a comment. -/
def ComRel (w : World) (s : ByteArray) (i : Nat) (l : List S30) (v : Value) (n : Nat) (w' : World) : Prop :=
  ∃ j : Nat, j ≤ s.size ∧ j + n = s.size + 1 ∧ Hid (runTo (fun c => c != 10) s i = runTo (fun c => c != 10) s j) ∧ Hid (Kd.R k30 30 w' (w.heap.size + 2) (fun _ => True) v l) ∧ Hid (Box1 w s w') ∧ Hid (Box6 w j w') ∧ Hid (Below w.heap.size w w')
theorem com_set {w W : World} {s : ByteArray} {i j n : Nat} {v : Value} {l : List S30} (hj : j < s.size) (hn : j + 1 + n = s.size + 1) (hq : runTo (fun c => c != 10) s i = runTo (fun c => c != 10) s (j + 1))
    (hr : Kd.R k30 30 W (w.heap.size + 2) (fun _ => True) v l) (h1 : Box1 w s W) (h6 : Box6 w j W) (hb : Below w.heap.size w W) : ComRel w s i l v n (W.setCell ⟨w.heap.size + 1, 0, none⟩ (.int .i64 ((j : Int) + 1))) :=
  ⟨j + 1, hj, hn, Lib.hid hq, Lib.hid (Kd.R_mono (Kd.R_far (Kd.R_bound hr) (p := ⟨w.heap.size + 1, 0, none⟩) (fun k hk => by have := hk.2.1; show k ≠ w.heap.size + 1; omega) _) (fun _ _ => trivial)),
    Lib.hid (blk_far4 h1 (by omega)), Lib.hid (blk_put h6 0 _ rfl), Lib.hid (Below.setCell hb (p := ⟨w.heap.size + 1, 0, none⟩) (by show w.heap.size ≤ w.heap.size + 1; omega) _)⟩
theorem rel_set {w W : World} {s : ByteArray} {r : List S30 × Int × Int} {n i j : Nat} {v : Value} {l : List S30} (hc : cutN s n j l = r) (hn : s.size < n + j) (hj : j ≤ s.size) (hl : l.length ≤ j)
    (hr : Kd.R k30 30 W (w.heap.size + 2) (fun _ => True) v l) (h1 : Box1 w s W) (h6 : Box6 w i W) (hb : Below w.heap.size w W) : CutRel w s r n v (W.setCell ⟨w.heap.size + 1, 0, none⟩ (.int .i64 j)) :=
  ⟨j, l, Lib.hid hc, Lib.hid hn, hj, Lib.hid hl, Lib.hid (Kd.R_mono (Kd.R_far (Kd.R_bound hr) (p := ⟨w.heap.size + 1, 0, none⟩) (fun k hk => by have := hk.2.1; show k ≠ w.heap.size + 1; omega) _) (fun _ _ => trivial)),
    Lib.hid (blk_far4 h1 (by omega)), Lib.hid (blk_put h6 0 _ rfl), Lib.hid (Below.setCell hb (p := ⟨w.heap.size + 1, 0, none⟩) (by show w.heap.size ≤ w.heap.size + 1; omega) _)⟩
theorem com_end {w W : World} {s : ByteArray} {r : List S30 × Int × Int} {n i j : Nat} {v : Value} {l : List S30} (hc : cutN s n (runTo (fun c => c != 10) s i) l = r) (hs : i < runTo (fun c => c != 10) s i) (he : runTo (fun c => c != 10) s i = j) (hn : s.size < n + 1 + i) (hl : l.length ≤ i) (hj : j ≤ s.size)
    (RR : Hid (Kd.R k30 30 W (w.heap.size + 2) (fun _ => True) v l)) (B1 : Hid (Box1 w s W)) (B6 : Hid (Box6 w j W)) (HB : Hid (Below w.heap.size w W)) : CutRel w s r n v W := by
  rw [he] at hc hs
  exact ⟨j, l, Lib.hid hc, Lib.hid (by omega), hj, Lib.hid (by omega), RR, B1, B6, HB⟩
set_option maxRecDepth 100000 in
set_option maxHeartbeats 8000000 in
theorem cut_is (s : ByteArray) (w : World) (hE : Env w) :
    Calls Tryd.prog 11 #[.string s] w fun e w' => ∃ v : Value, e = .returned (.tuple #[v, .int .i64 (cutR s).2.1, .int .i64 (cutR s).2.2]) ∧ Kd.R k30 30 w' w.heap.size (fun _ => True) v (cutR s).1 ∧ Below w.heap.size w w' := by
  have HE := Lib.hid hE
  clear hE
  have hmf : ∀ (fn : Fn) (first cap : Array Value) (w : World), (Instr.makeFunc fn first cap).run Tryd.prog w = .ok (.func fn first cap) w := fun _ _ _ _ => rfl
  obtain ⟨r, hr⟩ : ∃ r, r = cutR s := ⟨_, rfl⟩
  rw [← hr]
  have HR := Lib.hid hr
  clear hr
  by_cases hL : 20000 < s.size
  · have hr : r = ([], 0, 7) := by rw [HR.out, cutR, if_pos hL]
    subst hr
    have t1 : decide ((20000 : Int) < (s.size : Int)) = true := by simp; omega
    have t2 : decide (20000 < s.size) = true := decide_eq_true hL
    go_enter Tryd.func11, Tryd.ntmps11
    go_wp2_with fail
    go_ret3
    exact ⟨_, rfl, Kd.R_nil _ _ _ _ _, below_alloc (Below.refl _ _) _⟩
  · have t1 : decide ((20000 : Int) < (s.size : Int)) = false := by simp; omega
    have t2 : decide (20000 < s.size) = false := decide_eq_false hL
    have HL := Lib.hid hL
    clear hL
    go_enter Tryd.func11, Tryd.ntmps11
    go_wp2_with fail
    have hu9 := Tryd.underlying9
    go_loopg [5] (s.size + 1) (fun kq v5 w' => CutRel w s r kq v5 w')
    case atStart =>
      refine ⟨0, [], Lib.hid (by rw [HR.out, cutR, if_neg HL.out]), Lib.hid (by omega), Nat.zero_le _, Lib.hid (Nat.zero_le _), Lib.hid (Kd.R_nil _ _ _ _ _), Lib.hid (blk_alloc (heap_alloc_new w _) _), Lib.hid (blk_new1 w _ _), Lib.hid (below_alloc (below_alloc (Below.refl _ _) _) _)⟩
    case round =>
      obtain ⟨i, l, HC, HN, hi, HLL, HRR, B1, B6, HBW⟩ := hrel
      have c1 : wr.cell? ⟨w.heap.size, 0, none⟩ = some (.string s) := (blk_cell B1.out 0).trans rfl
      have c6 : wr.cell? ⟨w.heap.size + 1, 0, none⟩ = some (.int .i64 i) := (blk_cell B6.out 0).trans rfl
      have hbs : w.heap.size + 2 ≤ wr.heap.size := blk_lt B6.out
      obtain ⟨k, rfl⟩ : ∃ k, gk = k + 1 := ⟨gk - 1, by have := HN.out; omega⟩
      have hsz : s.size ≤ 20000 := by have := HL.out; omega
      by_cases hlt : i < s.size
      · obtain ⟨p, hp⟩ : ∃ p, p = runTo (hasB partsT) s i := ⟨_, rfl⟩
        obtain ⟨b, hb⟩ : ∃ b, b = runTo (hasB blanksT) s i := ⟨_, rfl⟩
        have hp1 : i ≤ p := by rw [hp]; exact runTo_ge _ _ _
        have hp2 : p ≤ s.size := by rw [hp]; exact runTo_le _ _ _ hi
        have hb1 : i ≤ b := by rw [hb]; exact runTo_ge _ _ _
        have hb2 : b ≤ s.size := by rw [hb]; exact runTo_le _ _ _ hi
        have HP := Lib.hid hp
        have HBB := Lib.hid hb
        clear hp hb
        have f6 := blk_frozen B6.out 0
        go_wp2_with fail
        refine (row_any partsT s (w.heap.size + 1) w.heap.size i wr c6 c1 hi (by omega)).mono ?_
        rintro e_ w1 ⟨rfl, rfl⟩
        rw [← HP.out]
        by_cases hib : i < b
        · have q1 : decide ((i : Int) < (b : Int)) = true := by simp; omega
          go_wp2_with fail
          refine start_ (n := 5) (S := fun w' => w'.cell? ⟨w.heap.size + 1, 0, none⟩ = some (.int .i64 i)) (ds := []) #[false, false, false, false, false] (by kernel_rfl) rfl rfl (cell_drew c6) (fun hHeld => ?_)
          refine pure_ (i := 0) (N := some 44) (v := ?_) (a' := ?_) #[true, false, false, false, false] rfl rfl (by kernel_rfl) (fun _ _ _ h => h) (Or.inl ⟨by rfl, ?_⟩) ?_ ?_
          rotate_left
          · intro w'
            go_simp
            with_reducible rfl
          rotate_left
          · simp only [Act.put, List.setIfInBounds_toArray, List.set_cons_zero, List.set_cons_succ, i64_w, i32_w]
            rfl
          refine take_ (i := 2) (N := some 46) (v := ?_) (a' := ?_) #[true, false, true, false, false] rfl rfl (by kernel_rfl) (fun _ _ _ h => h) (Or.inl ⟨by rfl, ?_⟩) hHeld ?_ ?_
          rotate_left
          · intro w' s0
            go_simp
            with_reducible rfl
          rotate_left
          · simp only [Act.put, List.setIfInBounds_toArray, List.set_cons_zero, List.set_cons_succ, i64_w, i32_w]
            rfl
          refine one_ (i := 1) (N := some 45) #[true, true, true, false, false] rfl rfl (by kernel_rfl) (by decide) (fun K hK => ?_)
          refine goesC_ Tryd.func23 (by kernel_rfl) rfl #[.string blanksT, .pointer (some ⟨w.heap.size + 1, 0, none⟩), .pointer (some ⟨w.heap.size, 0, none⟩)] (by rfl) rfl rfl (by rfl) (by simp only [List.map_toArray, List.map_cons, List.map_nil]; rfl) ?_
          with_reducible refine (row_any blanksT s (w.heap.size + 1) w.heap.size i _ (cell_drew c6) (cell_drew c1) hi (by omega)).mono ?_
          rintro e_ w2 ⟨rfl, rfl⟩
          refine ⟨_, rfl, ?_⟩
          rw [← HBB.out]
          refine hK.out _ _ (cell_drew c6) (fun hHeld => ?_)
          clear hK K
          refine norm_ (a' := ?_) ?_ ?_
          rotate_left
          · show Act.put _ (some 45) _ = _
            simp only [Act.put, List.setIfInBounds_toArray, List.set_cons_zero, List.set_cons_succ, i64_w, i32_w]
            rfl
          refine pure_ (i := 3) (N := some 47) (v := ?_) (a' := ?_) #[true, true, true, true, false] rfl rfl (by kernel_rfl) (fun _ _ _ h => h) (Or.inl ⟨by rfl, ?_⟩) ?_ ?_
          rotate_left
          · intro w'
            go_simp
            with_reducible rfl
          rotate_left
          · simp only [Act.put, List.setIfInBounds_toArray, List.set_cons_zero, List.set_cons_succ, i64_w, i32_w]
            rfl
          refine pure_ (i := 4) (N := some 43) (v := ?_) (a' := ?_) #[true, true, true, true, true] rfl rfl (by kernel_rfl) (fun _ _ _ h => h) (Or.inl ⟨by rfl, ?_⟩) ?_ ?_
          rotate_left
          · intro w'
            go_simp
            with_reducible rfl
          rotate_left
          · simp only [Act.put, List.setIfInBounds_toArray, List.set_cons_zero, List.set_cons_succ, i64_w, i32_w]
            rfl
          refine done_ (by kernel_rfl) ?_
          go_wp2_with fail
          refine (row_any blanksT s (w.heap.size + 1) w.heap.size i _ (cell_drew c6) (cell_drew c1) hi (by omega)).mono ?_
          rintro e_ w2 ⟨rfl, rfl⟩
          rw [← HBB.out]
          have c6d := cell_drew c6
          have f6d := blk_frozen (blk_drew B6.out) 0
          go_wp2_with fail
          go_roundg k
          case measure => omega
          case rel => exact rel_set (by have h := HC.out; rw [cutN, dif_pos hlt, ← HBB.out, if_pos hib] at h; exact h) (by have := HN.out; omega) hb2 (by have := HLL.out; omega) (Kd.R_drew HRR.out) (blk_drew B1.out) (blk_drew B6.out) (below_drew HBW.out)
        · have q1 : decide ((i : Int) < (b : Int)) = false := by simp; omega
          have hC2 : cutN s (k + 1) i l = r := HC.out
          rw [cutN, dif_pos hlt, ← HBB.out, if_neg hib, ← HP.out] at hC2
          have c1d := cell_drew c1
          have c6d := cell_drew c6
          by_cases h35 : s[i] = 35
          · rw [if_pos h35] at hC2
            have HC2 := Lib.hid hC2
            have HSI : Hid (i < runTo (fun c => c != 10) s i) := Lib.hid (by rw [runTo_yes _ s i hlt (by rw [h35]; rfl)]; exact runTo_ge _ _ _)
            have q2 : ((s[i].toNat : Int) == 35) = true := by rw [h35]; rfl
            clear hC2 h35
            go_wp2_with fail
            refine start_ (n := 5) (S := fun w' => w'.cell? ⟨w.heap.size + 1, 0, none⟩ = some (.int .i64 i)) (ds := []) #[false, false, false, false, false] (by kernel_rfl) rfl rfl (cell_drew c6) (fun hHeld => ?_)
            refine pure_ (i := 0) (N := some 44) (v := ?_) (a' := ?_) #[true, false, false, false, false] rfl rfl (by kernel_rfl) (fun _ _ _ h => h) (Or.inl ⟨by rfl, ?_⟩) ?_ ?_
            rotate_left
            · intro w'
              go_simp
              with_reducible rfl
            rotate_left
            · simp only [Act.put, List.setIfInBounds_toArray, List.set_cons_zero, List.set_cons_succ, i64_w, i32_w]
              rfl
            refine take_ (i := 2) (N := some 46) (v := ?_) (a' := ?_) #[true, false, true, false, false] rfl rfl (by kernel_rfl) (fun _ _ _ h => h) (Or.inl ⟨by rfl, ?_⟩) hHeld ?_ ?_
            rotate_left
            · intro w' s0
              go_simp
              with_reducible rfl
            rotate_left
            · simp only [Act.put, List.setIfInBounds_toArray, List.set_cons_zero, List.set_cons_succ, i64_w, i32_w]
              rfl
            refine one_ (i := 1) (N := some 45) #[true, true, true, false, false] rfl rfl (by kernel_rfl) (by decide) (fun K hK => ?_)
            refine goesC_ Tryd.func23 (by kernel_rfl) rfl #[.string blanksT, .pointer (some ⟨w.heap.size + 1, 0, none⟩), .pointer (some ⟨w.heap.size, 0, none⟩)] (by rfl) rfl rfl (by rfl) (by simp only [List.map_toArray, List.map_cons, List.map_nil]; rfl) ?_
            with_reducible refine (row_any blanksT s (w.heap.size + 1) w.heap.size i _ (cell_drew c6) (cell_drew c1) hi (by omega)).mono ?_
            rintro e_ w2 ⟨rfl, rfl⟩
            refine ⟨_, rfl, ?_⟩
            rw [← HBB.out]
            refine hK.out _ _ (cell_drew c6) (fun hHeld => ?_)
            clear hK K
            refine norm_ (a' := ?_) ?_ ?_
            rotate_left
            · show Act.put _ (some 45) _ = _
              simp only [Act.put, List.setIfInBounds_toArray, List.set_cons_zero, List.set_cons_succ, i64_w, i32_w]
              rfl
            refine pure_ (i := 3) (N := some 47) (v := ?_) (a' := ?_) #[true, true, true, true, false] rfl rfl (by kernel_rfl) (fun _ _ _ h => h) (Or.inl ⟨by rfl, ?_⟩) ?_ ?_
            rotate_left
            · intro w'
              go_simp
              with_reducible rfl
            rotate_left
            · simp only [Act.put, List.setIfInBounds_toArray, List.set_cons_zero, List.set_cons_succ, i64_w, i32_w]
              rfl
            refine pure_ (i := 4) (N := some 43) (v := ?_) (a' := ?_) #[true, true, true, true, true] rfl rfl (by kernel_rfl) (fun _ _ _ h => h) (Or.inl ⟨by rfl, ?_⟩) ?_ ?_
            rotate_left
            · intro w'
              go_simp
              with_reducible rfl
            rotate_left
            · simp only [Act.put, List.setIfInBounds_toArray, List.set_cons_zero, List.set_cons_succ, i64_w, i32_w]
              rfl
            refine done_ (by kernel_rfl) ?_
            go_wp2_with fail
            go_loopg [55] (s.size + 1 - i) (fun kq v55 w' => ComRel w s i l u5 kq w')
            case atStart => exact ⟨i, hi, by omega, Lib.hid rfl, Lib.hid (Kd.R_drew HRR.out), Lib.hid (blk_drew B1.out), Lib.hid (blk_drew B6.out), Lib.hid (below_drew HBW.out)⟩
            case round =>
              clear c1 c6 c1d c6d f6
              obtain ⟨j, hj, hjn, HQ, RR, BB1, BB6, BBW⟩ := hrel
              have c1 : wr.cell? ⟨w.heap.size, 0, none⟩ = some (.string s) := (blk_cell BB1.out 0).trans rfl
              have c6 : wr.cell? ⟨w.heap.size + 1, 0, none⟩ = some (.int .i64 j) := (blk_cell BB6.out 0).trans rfl
              have f6 := blk_frozen BB6.out 0
              by_cases hjl : j < s.size
              · by_cases h10 : s[j] = 10
                · have HST := Lib.hid (runTo_no (fun c => c != 10) s j hjl (by rw [h10]; rfl))
                  have q3 : ((s[j].toNat : Int) != 10) = false := by rw [h10]; rfl
                  clear h10
                  go_wp2_with fail
                  go_roundg k
                  case measure => omega
                  case rel => exact com_end HC2.out HSI.out (HQ.out.trans HST.out) HN.out HLL.out hj RR BB1 BB6 BBW
  
                · have HST := Lib.hid (runTo_yes (fun c => c != 10) s j hjl (by simpa using h10))
                  have q3 : ((s[j].toNat : Int) != 10) = true := bne_iff_ne.2 (u8_ne h10)
                  clear h10
                  go_wp2_with fail
                  go_roundg (gk - 1)
                  case measure => omega
                  case rel => exact com_set hjl (by omega) (HQ.out.trans HST.out) RR.out BB1.out BB6.out BBW.out
              · have HST := Lib.hid (runTo_end (fun c => c != 10) s j (by omega))
                go_wp2_with fail
                go_roundg k
                case measure => omega
                case rel => exact com_end HC2.out HSI.out (HQ.out.trans HST.out) HN.out HLL.out hj RR BB1 BB6 BBW
          · rw [if_neg h35] at hC2
            have HC2 := Lib.hid hC2
            have q2 : ((s[i].toNat : Int) == 35) = false := beq_eq_false_iff_ne.2 (u8_ne h35)
            clear hC2 h35
            by_cases hip : i < p
            · have q3 : decide ((i : Int) < (p : Int)) = true := by simp; omega
              have hts : (s.extract i p).size ≤ 1000000 := by simp; omega
              go_wp2_with fail
              refine start_ (n := 5) (S := fun w' => w'.cell? ⟨w.heap.size + 1, 0, none⟩ = some (.int .i64 i)) (ds := []) #[false, false, false, false, false] (by kernel_rfl) rfl rfl (cell_drew c6) (fun hHeld => ?_)
              refine pure_ (i := 0) (N := some 44) (v := ?_) (a' := ?_) #[true, false, false, false, false] rfl rfl (by kernel_rfl) (fun _ _ _ h => h) (Or.inl ⟨by rfl, ?_⟩) ?_ ?_
              rotate_left
              · intro w'
                go_simp
                with_reducible rfl
              rotate_left
              · simp only [Act.put, List.setIfInBounds_toArray, List.set_cons_zero, List.set_cons_succ, i64_w, i32_w]
                rfl
              refine take_ (i := 2) (N := some 46) (v := ?_) (a' := ?_) #[true, false, true, false, false] rfl rfl (by kernel_rfl) (fun _ _ _ h => h) (Or.inl ⟨by rfl, ?_⟩) hHeld ?_ ?_
              rotate_left
              · intro w' s0
                go_simp
                with_reducible rfl
              rotate_left
              · simp only [Act.put, List.setIfInBounds_toArray, List.set_cons_zero, List.set_cons_succ, i64_w, i32_w]
                rfl
              refine one_ (i := 1) (N := some 45) #[true, true, true, false, false] rfl rfl (by kernel_rfl) (by decide) (fun K hK => ?_)
              refine goesC_ Tryd.func23 (by kernel_rfl) rfl #[.string blanksT, .pointer (some ⟨w.heap.size + 1, 0, none⟩), .pointer (some ⟨w.heap.size, 0, none⟩)] (by rfl) rfl rfl (by rfl) (by simp only [List.map_toArray, List.map_cons, List.map_nil]; rfl) ?_
              with_reducible refine (row_any blanksT s (w.heap.size + 1) w.heap.size i _ (cell_drew c6) (cell_drew c1) hi (by omega)).mono ?_
              rintro e_ w2 ⟨rfl, rfl⟩
              refine ⟨_, rfl, ?_⟩
              rw [← HBB.out]
              refine hK.out _ _ (cell_drew c6) (fun hHeld => ?_)
              clear hK K
              refine norm_ (a' := ?_) ?_ ?_
              rotate_left
              · show Act.put _ (some 45) _ = _
                simp only [Act.put, List.setIfInBounds_toArray, List.set_cons_zero, List.set_cons_succ, i64_w, i32_w]
                rfl
              refine pure_ (i := 3) (N := some 47) (v := ?_) (a' := ?_) #[true, true, true, true, false] rfl rfl (by kernel_rfl) (fun _ _ _ h => h) (Or.inl ⟨by rfl, ?_⟩) ?_ ?_
              rotate_left
              · intro w'
                go_simp
                with_reducible rfl
              rotate_left
              · simp only [Act.put, List.setIfInBounds_toArray, List.set_cons_zero, List.set_cons_succ, i64_w, i32_w]
                rfl
              refine pure_ (i := 4) (N := some 43) (v := ?_) (a' := ?_) #[true, true, true, true, true] rfl rfl (by kernel_rfl) (fun _ _ _ h => h) (Or.inl ⟨by rfl, ?_⟩) ?_ ?_
              rotate_left
              · intro w'
                go_simp
                with_reducible rfl
              rotate_left
              · simp only [Act.put, List.setIfInBounds_toArray, List.set_cons_zero, List.set_cons_succ, i64_w, i32_w]
                rfl
              refine done_ (by kernel_rfl) ?_
              go_wp2_with fail
              clear c1 c6 f6
              obtain ⟨wq, hwq⟩ : ∃ W_, W_ = wr.drew := ⟨_, rfl⟩
              rw [← hwq] at c1d c6d ⊢
              have MB1 : Hid (Box1 w s wq) := Lib.hid (by rw [hwq]; exact blk_drew B1.out)
              have MB6 : Hid (Box6 w i wq) := Lib.hid (by rw [hwq]; exact blk_drew B6.out)
              have MRR : Hid (Kd.R k30 30 wq (w.heap.size + 2) (fun _ => True) u5 l) := Lib.hid (by rw [hwq]; exact Kd.R_drew HRR.out)
              have MBW : Hid (Below w.heap.size w wq) := Lib.hid (by rw [hwq]; exact below_drew HBW.out)
              clear hwq B1 B6 HRR HBW hbs
              have hbs : w.heap.size + 2 ≤ wq.heap.size := blk_lt MB6.out
              refine start_ (n := 12) (S := fun w' => w'.cell? ⟨w.heap.size, 0, none⟩ = some (.string s) ∧ w'.cell? ⟨w.heap.size + 1, 0, none⟩ = some (.int .i64 i)) (ds := [10]) #[false, false, false, false, false, false, false, false, false, false, false, false] (by kernel_rfl) rfl rfl ⟨cell_drew c1d, cell_drew c6d⟩ (fun hHeld => ?_)
              refine pure_ (i := 2) (N := some 74) (v := ?_) (a' := ?_) #[false, false, true, false, false, false, false, false, false, false, false, false] rfl rfl (by kernel_rfl) (fun _ _ _ h => h) (Or.inl ⟨by rfl, ?_⟩) ?_ ?_
              rotate_left
              · intro w'
                go_simp
                with_reducible rfl
              rotate_left
              · simp only [Act.put, List.setIfInBounds_toArray, List.set_cons_zero, List.set_cons_succ, i64_w, i32_w]
                rfl
              refine take_ (i := 0) (N := some 72) (v := ?_) (a' := ?_) #[true, false, true, false, false, false, false, false, false, false, false, false] rfl rfl (by kernel_rfl) (fun _ _ _ h => h) (Or.inl ⟨by rfl, ?_⟩) hHeld ?_ ?_
              rotate_left
              · rintro w' ⟨s0, s1⟩
                go_simp
                with_reducible rfl
              rotate_left
              · simp only [Act.put, List.setIfInBounds_toArray, List.set_cons_zero, List.set_cons_succ, i64_w, i32_w]
                rfl
              refine take_ (i := 1) (N := some 73) (v := ?_) (a' := ?_) #[true, true, true, false, false, false, false, false, false, false, false, false] rfl rfl (by kernel_rfl) (fun _ _ _ h => h) (Or.inl ⟨by rfl, ?_⟩) hHeld ?_ ?_
              rotate_left
              · rintro w' ⟨s0, s1⟩
                go_simp
                with_reducible rfl
              rotate_left
              · simp only [Act.put, List.setIfInBounds_toArray, List.set_cons_zero, List.set_cons_succ, i64_w, i32_w]
                rfl
              refine pure_ (i := 3) (N := some 75) (v := ?_) (a' := ?_) #[true, true, true, true, false, false, false, false, false, false, false, false] rfl rfl (by kernel_rfl) (fun _ _ _ h => h) (Or.inl ⟨by rfl, ?_⟩) ?_ ?_
              rotate_left
              · intro w'
                go_simp
                with_reducible rfl
              rotate_left
              · simp only [Act.put, List.setIfInBounds_toArray, List.set_cons_zero, List.set_cons_succ, i64_w, i32_w]
                rfl
              refine take_ (i := 4) (N := some 76) (v := ?_) (a' := ?_) #[true, true, true, true, true, false, false, false, false, false, false, false] rfl rfl (by kernel_rfl) (fun _ _ _ h => h) (Or.inl ⟨by rfl, ?_⟩) hHeld ?_ ?_
              rotate_left
              · rintro w' ⟨s0, s1⟩
                go_simp
                with_reducible rfl
              rotate_left
              · simp only [Act.put, List.setIfInBounds_toArray, List.set_cons_zero, List.set_cons_succ, i64_w, i32_w]
                rfl
              refine join_ (σ := Nat) 2 #[true, true, true, true, true, true, true, true, true, true, false, false] (fun g => [(77, .tuple #[.agg #[.int .i64 (wordK (s.extract i p)), .int .i64 (wordV (s.extract i p)), .int .i64 i, .string (s.extract i p)], .bool (wordK (s.extract i p) != 0)]), (71, .tuple #[.agg #[.int .i64 (wordK (s.extract i p)), .int .i64 (wordV (s.extract i p)), .int .i64 i, .string (s.extract i p)], .bool (wordK (s.extract i p) != 0)]), (78, .agg #[.int .i64 (wordK (s.extract i p)), .int .i64 (wordV (s.extract i p)), .int .i64 i, .string (s.extract i p)]), (79, .bool (wordK (s.extract i p) != 0)), (9, .pointer (some ⟨g, 0, none⟩))]) (fun g w' => w'.heap[g]? = some (.cells #[.int .i64 0, .int .i64 0, .int .i64 0, .string ⟨#[]⟩] 30 (0, 0)) ∧ wq.heap.size ≤ g ∧ Below wq.heap.size wq w') ?_ ?_
              rotate_left
              · intro hCont
                refine two_ (i := 5) (j := 9) (Ni := some 77) (Nj := some 9) #[true, true, true, true, true, true, false, false, false, false, false, false] #[true, true, true, true, true, false, false, false, false, true, false, false] rfl rfl rfl rfl (by kernel_rfl) (by decide) (by decide) (fun K hK => ?_) (fun K hK => ?_)
                · skip
                  refine goes_ Tryd.func25 (by kernel_rfl) rfl #[.string (s.extract i p), .int .i64 i] (by rfl) rfl rfl (by simp only [List.map_toArray, List.map_cons, List.map_nil]; rfl) ?_
                  with_reducible refine (word_is (s.extract i p) i hts _ (HE.out.below (below_drew MBW.out) HE.out.six)).mono ?_
                  rintro e_ w5 ⟨rfl, hb_⟩
                  refine ⟨_, rfl, ?_⟩
                  have B5 : Hid (Below wq.heap.size wq w5) := Lib.hid (below_step (below_drew (Below.refl _ _)) hb_)
                  refine hK.out _ _ ⟨pw_cell_below (B5.out) c1d, pw_cell_below (B5.out) c6d⟩ (fun hHeld => ?_)
                  clear hK K
                  refine norm_ (a' := ?_) ?_ ?_
                  rotate_left
                  · show Act.put _ (some 77) _ = _
                    simp only [Act.put, List.setIfInBounds_toArray, List.set_cons_zero, List.set_cons_succ, i64_w, i32_w]
                    rfl
                  refine pure_ (i := 6) (N := some 71) (v := ?_) (a' := ?_) #[true, true, true, true, true, true, true, false, false, false, false, false] rfl rfl (by kernel_rfl) (fun _ _ _ h => h) (Or.inl ⟨by rfl, ?_⟩) ?_ ?_
                  rotate_left
                  · intro w'
                    go_simp
                    with_reducible rfl
                  rotate_left
                  · simp only [Act.put, List.setIfInBounds_toArray, List.set_cons_zero, List.set_cons_succ, i64_w, i32_w]
                    rfl
                  refine pure_ (i := 7) (N := some 78) (v := ?_) (a' := ?_) #[true, true, true, true, true, true, true, true, false, false, false, false] rfl rfl (by kernel_rfl) (fun _ _ _ h => h) (Or.inl ⟨by rfl, ?_⟩) ?_ ?_
                  rotate_left
                  · intro w'
                    go_simp
                    with_reducible rfl
                  rotate_left
                  · simp only [Act.put, List.setIfInBounds_toArray, List.set_cons_zero, List.set_cons_succ, i64_w, i32_w]
                    rfl
                  refine pure_ (i := 8) (N := some 79) (v := ?_) (a' := ?_) #[true, true, true, true, true, true, true, true, true, false, false, false] rfl rfl (by kernel_rfl) (fun _ _ _ h => h) (Or.inl ⟨by rfl, ?_⟩) ?_ ?_
                  rotate_left
                  · intro w'
                    go_simp
                    with_reducible rfl
                  rotate_left
                  · simp only [Act.put, List.setIfInBounds_toArray, List.set_cons_zero, List.set_cons_succ, i64_w, i32_w]
                    rfl
                  refine one_ (i := 9) (N := some 9) #[true, true, true, true, true, true, true, true, true, true, false, false] rfl rfl (by kernel_rfl) (by decide) (fun K hK => ?_)
                  refine value_ (w1 := ?_) (v := ?_) (by rfl) rfl ?_ ?_
                  rotate_left 2
                  · go_simp
                    constructor
                    · rfl
                    · rfl
                  refine hK.out _ _ ⟨pw_cell_below (below_alloc B5.out _) c1d, pw_cell_below (below_alloc B5.out _) c6d⟩ (fun hHeld => ?_)
                  clear hK K
                  refine norm_ (a' := ?_) ?_ ?_
                  rotate_left
                  · show Act.put _ (some 9) _ = _
                    simp only [Act.put, List.setIfInBounds_toArray, List.set_cons_zero, List.set_cons_succ, i64_w, i32_w]
                    rfl
                  exact norm_ (by simp only [putAll, Act.put, List.setIfInBounds_toArray, List.set_cons_zero, List.set_cons_succ]) (hCont w5.heap.size _ ⟨heap_alloc_new w5 _, B5.out.size, below_alloc B5.out _⟩)
                · skip
                  refine value_ (w1 := ?_) (v := ?_) (by rfl) rfl ?_ ?_
                  rotate_left 2
                  · go_simp
                    constructor
                    · rfl
                    · rfl
                  refine hK.out _ _ ⟨pw_cell_below (below_alloc (below_drew (Below.refl _ _)) _) c1d, pw_cell_below (below_alloc (below_drew (Below.refl _ _)) _) c6d⟩ (fun hHeld => ?_)
                  clear hK K
                  refine norm_ (a' := ?_) ?_ ?_
                  rotate_left
                  · show Act.put _ (some 9) _ = _
                    simp only [Act.put, List.setIfInBounds_toArray, List.set_cons_zero, List.set_cons_succ, i64_w, i32_w]
                    rfl
                  refine one_ (i := 5) (N := some 77) #[true, true, true, true, true, true, false, false, false, true, false, false] rfl rfl (by kernel_rfl) (by decide) (fun K hK => ?_)
                  refine goes_ Tryd.func25 (by kernel_rfl) rfl #[.string (s.extract i p), .int .i64 i] (by rfl) rfl rfl (by simp only [List.map_toArray, List.map_cons, List.map_nil]; rfl) ?_
                  with_reducible refine (word_is (s.extract i p) i hts _ (HE.out.below (below_drew (below_alloc MBW.out _)) HE.out.six)).mono ?_
                  rintro e_ w5 ⟨rfl, hb_⟩
                  refine ⟨_, rfl, ?_⟩
                  have B5 : Hid (Below wq.heap.size wq w5) := Lib.hid (below_step (below_drew (below_alloc (Below.refl _ _) _)) hb_)
                  have KA := Lib.hid (blk_below (blk_drew (heap_alloc_new wq _)) hb_)
                  refine hK.out _ _ ⟨pw_cell_below (B5.out) c1d, pw_cell_below (B5.out) c6d⟩ (fun hHeld => ?_)
                  clear hK K
                  refine norm_ (a' := ?_) ?_ ?_
                  rotate_left
                  · show Act.put _ (some 77) _ = _
                    simp only [Act.put, List.setIfInBounds_toArray, List.set_cons_zero, List.set_cons_succ, i64_w, i32_w]
                    rfl
                  refine pure_ (i := 6) (N := some 71) (v := ?_) (a' := ?_) #[true, true, true, true, true, true, true, false, false, true, false, false] rfl rfl (by kernel_rfl) (fun _ _ _ h => h) (Or.inl ⟨by rfl, ?_⟩) ?_ ?_
                  rotate_left
                  · intro w'
                    go_simp
                    with_reducible rfl
                  rotate_left
                  · simp only [Act.put, List.setIfInBounds_toArray, List.set_cons_zero, List.set_cons_succ, i64_w, i32_w]
                    rfl
                  refine pure_ (i := 7) (N := some 78) (v := ?_) (a' := ?_) #[true, true, true, true, true, true, true, true, false, true, false, false] rfl rfl (by kernel_rfl) (fun _ _ _ h => h) (Or.inl ⟨by rfl, ?_⟩) ?_ ?_
                  rotate_left
                  · intro w'
                    go_simp
                    with_reducible rfl
                  rotate_left
                  · simp only [Act.put, List.setIfInBounds_toArray, List.set_cons_zero, List.set_cons_succ, i64_w, i32_w]
                    rfl
                  refine pure_ (i := 8) (N := some 79) (v := ?_) (a' := ?_) #[true, true, true, true, true, true, true, true, true, true, false, false] rfl rfl (by kernel_rfl) (fun _ _ _ h => h) (Or.inl ⟨by rfl, ?_⟩) ?_ ?_
                  rotate_left
                  · intro w'
                    go_simp
                    with_reducible rfl
                  rotate_left
                  · simp only [Act.put, List.setIfInBounds_toArray, List.set_cons_zero, List.set_cons_succ, i64_w, i32_w]
                    rfl
                  exact norm_ (by simp only [putAll, Act.put, List.setIfInBounds_toArray, List.set_cons_zero, List.set_cons_succ]) (hCont wq.heap.size _ ⟨KA.out, Nat.le_refl _, B5.out⟩)
              rintro g wF ⟨hF1, hF2, hF3⟩
              have KF := Lib.hid hF1
              have GE := Lib.hid hF2
              have BF := Lib.hid hF3
              have hHeld := (⟨pw_cell_below hF3 c1d, pw_cell_below hF3 c6d⟩ : _ ∧ _)
              clear hF1 hF2 hF3
              have cg0 : wF.cell? ⟨g, 0, none⟩ = some (.int .i64 0) := (blk_cell KF.out 0).trans rfl
              have cg1 : wF.cell? ⟨g, 1, none⟩ = some (.int .i64 0) := (blk_cell KF.out 1).trans rfl
              have cg2 : wF.cell? ⟨g, 2, none⟩ = some (.int .i64 0) := (blk_cell KF.out 2).trans rfl
              have cg3 : wF.cell? ⟨g, 3, none⟩ = some (.string ⟨#[]⟩) := (blk_cell KF.out 3).trans rfl
              have fg0 := blk_frozen KF.out 0
              have fg1 := blk_frozen KF.out 1
              have fg2 := blk_frozen KF.out 2
              have fg3 := blk_frozen KF.out 3
              refine norm_ (a' := ?_) ?_ ?_
              rotate_left
              · simp only [putAll, Act.put, List.setIfInBounds_toArray, List.set_cons_zero, List.set_cons_succ]
                rfl
              refine last_ (i := 10) (N := none) #[true, true, true, true, true, true, true, true, true, true, true, false] rfl rfl (by kernel_rfl) (by decide) (fun K hK => ?_)
              refine skip_ (w1 := ?_) (by rfl) rfl ?_ ?_
              rotate_left
              · go_simp
                rfl
              refine hK.out _ _ ?_
              clear hK K
              refine pure_ (i := 11) (N := some 10) (v := ?_) (a' := ?_) #[true, true, true, true, true, true, true, true, true, true, true, true] rfl rfl (by kernel_rfl) (fun _ _ _ h => h) (Or.inl ⟨by rfl, ?_⟩) ?_ ?_
              rotate_left
              · intro w'
                go_simp
                with_reducible rfl
              rotate_left
              · simp only [Act.put, List.setIfInBounds_toArray, List.set_cons_zero, List.set_cons_succ, i64_w, i32_w]
                rfl
              refine done_ (by kernel_rfl) ?_
              obtain ⟨wz, hwz⟩ : ∃ W_, W_ = ((((wF.setCell ⟨g, 0, none⟩ (.int .i64 (wordK (s.extract i p)))).setCell ⟨g, 1, none⟩ (.int .i64 (wordV (s.extract i p)))).setCell ⟨g, 2, none⟩ (.int .i64 i)).setCell ⟨g, 3, none⟩ (.string (s.extract i p))) := ⟨_, rfl⟩
              rw [← hwz]
              have KZ : Hid (wz.heap[g]? = some (.cells #[.int .i64 (wordK (s.extract i p)), .int .i64 (wordV (s.extract i p)), .int .i64 i, .string (s.extract i p)] 30 (0, 0))) := Lib.hid (by rw [hwz]; exact (blk_put (blk_put (blk_put (blk_put KF.out 0 _ rfl) 1 _ rfl) 2 _ rfl) 3 _ rfl))
              have BZ : Hid (Below wq.heap.size wq wz) := Lib.hid (by rw [hwz]; exact (Below.setCell (Below.setCell (Below.setCell (Below.setCell BF.out (p := ⟨g, 0, none⟩) GE.out _) (p := ⟨g, 1, none⟩) GE.out _) (p := ⟨g, 2, none⟩) GE.out _) (p := ⟨g, 3, none⟩) GE.out _))
              have B1 : Hid (Box1 w s wz) := Lib.hid (blk_below MB1.out BZ.out)
              have B6 : Hid (Box6 w i wz) := Lib.hid (blk_below MB6.out BZ.out)
              have HRR : Hid (Kd.R k30 30 wz (w.heap.size + 2) (fun _ => True) u5 l) := Lib.hid (Kd.R_below MRR.out BZ.out)
              have HBW : Hid (Below w.heap.size w wz) := Lib.hid (below_step MBW.out BZ.out)
              have hbz : w.heap.size + 2 ≤ wz.heap.size := blk_lt B6.out
              clear hwz KF GE BF c1d c6d MB1 MB6 MRR MBW cg0 cg1 cg2 cg3 fg0 fg1 fg2 fg3 BZ hbs
              have c6 : wz.cell? ⟨w.heap.size + 1, 0, none⟩ = some (.int .i64 i) := (blk_cell B6.out 0).trans rfl
              have z0 : wz.cell? ⟨g, 0, none⟩ = some (.int .i64 (wordK (s.extract i p))) := (blk_cell KZ.out 0).trans rfl
              have z1 : wz.cell? ⟨g, 1, none⟩ = some (.int .i64 (wordV (s.extract i p))) := (blk_cell KZ.out 1).trans rfl
              have z2 : wz.cell? ⟨g, 2, none⟩ = some (.int .i64 i) := (blk_cell KZ.out 2).trans rfl
              have z3 : wz.cell? ⟨g, 3, none⟩ = some (.string (s.extract i p)) := (blk_cell KZ.out 3).trans rfl
              by_cases hk : wordK (s.extract i p) = 0
              · have q4 : (wordK (s.extract i p) != 0) = false := by simp [hk]
                have HF : Hid (r = ([], (i : Int), 2)) := Lib.hid (by rw [← HC2.out, if_pos hip, if_pos (by rw [← hk])])
                clear hk
                go_wp2_with fail
                refine start_ (n := 4) (S := fun w' => w'.cell? ⟨w.heap.size + 1, 0, none⟩ = some (.int .i64 i)) (ds := []) #[false, false, false, false] (by kernel_rfl) rfl rfl (cell_drew c6) (fun hHeld => ?_)
                refine pure_ (i := 1) (N := some 2) (v := ?_) (a' := ?_) #[false, true, false, false] rfl rfl (by kernel_rfl) (fun _ _ _ h => h) (Or.inl ⟨by rfl, ?_⟩) ?_ ?_
                rotate_left
                · intro w'
                  go_simp
                  with_reducible rfl
                rotate_left
                · simp only [Act.put, List.setIfInBounds_toArray, List.set_cons_zero, List.set_cons_succ, i64_w, i32_w]
                  rfl
                refine take_ (i := 0) (N := some 82) (v := ?_) (a' := ?_) #[true, true, false, false] rfl rfl (by kernel_rfl) (fun _ _ _ h => h) (Or.inl ⟨by rfl, ?_⟩) hHeld ?_ ?_
                rotate_left
                · intro w' s0
                  go_simp
                  with_reducible rfl
                rotate_left
                · simp only [Act.put, List.setIfInBounds_toArray, List.set_cons_zero, List.set_cons_succ, i64_w, i32_w]
                  rfl
                refine pure_ (i := 2) (N := some 3) (v := ?_) (a' := ?_) #[true, true, true, false] rfl rfl (by kernel_rfl) (fun _ _ _ h => h) (Or.inl ⟨by rfl, ?_⟩) ?_ ?_
                rotate_left
                · intro w'
                  go_simp
                  with_reducible rfl
                rotate_left
                · simp only [Act.put, List.setIfInBounds_toArray, List.set_cons_zero, List.set_cons_succ, i64_w, i32_w]
                  rfl
                refine pure_ (i := 3) (N := some 4) (v := ?_) (a' := ?_) #[true, true, true, true] rfl rfl (by kernel_rfl) (fun _ _ _ h => h) (Or.inl ⟨by rfl, ?_⟩) ?_ ?_
                rotate_left
                · intro w'
                  go_simp
                  with_reducible rfl
                rotate_left
                · simp only [Act.put, List.setIfInBounds_toArray, List.set_cons_zero, List.set_cons_succ, i64_w, i32_w]
                  rfl
                refine done_ (by kernel_rfl) ?_
                go_wp2_with fail
                go_ret3
                exact ⟨.slice none 0 0, by rw [HF.out]; rfl, by rw [HF.out]; exact Kd.R_nil _ _ _ _ _, below_drew HBW.out⟩
              · have q4 : (wordK (s.extract i p) != 0) = true := by simp [hk]
                have HF : Hid (cutN s k p (l ++ [(⟨wordK (s.extract i p), wordV (s.extract i p), i, (s.extract i p)⟩ : S30)]) = r) := Lib.hid (by have h := HC2.out; rw [if_pos hip, if_neg hk] at h; exact h)
                clear hk
                go_wp2_with (((with_reducible refine gate_builtin (b := .append) (xs := #[.tmp 83, .tmp 85]) rfl ?_); at_builtin; refine Stp.out ?_))
                unfold Stp
                refine Kd.R_append k30 (w0 := wz) (w.heap.size + 2) rfl (.tmp 83) (.tmp 85) 23 30 (.agg #[(.int .i64 0), (.int .i64 0), (.int .i64 0), (.string ⟨#[]⟩)]) 40 rfl Tryd.underlying23 info30 rfl (by decide) (by omega) u5 l (⟨wordK (s.extract i p), wordV (s.extract i p), i, (s.extract i p)⟩ : S30) [.int .i64 (wordK (s.extract i p)), .int .i64 (wordV (s.extract i p)), .int .i64 i, .string (s.extract i p)] (fun _ => True) (fun _ => False) rfl rfl (k30_mkM _ _ _ (⟨wordK (s.extract i p), wordV (s.extract i p), i, (s.extract i p)⟩ : S30)) (fun _ hk => hk.elim) (fun _ _ => trivial) HRR.out (Below.refl _ _) hbz (by have := HLL.out; omega) ?_
                intro v9 w9 ho_ hb_ hg_ hat_
                have HO := Lib.hid ho_
                have HB9 := Lib.hid hb_
                clear ho_ hb_ hg_ hat_ c6 z0 z1 z2 z3
                have N1 : Hid (Box1 w s w9) := Lib.hid ((HB9.out.block _ (by omega)).trans B1.out)
                have N6 : Hid (Box6 w i w9) := Lib.hid ((HB9.out.block _ (by omega)).trans B6.out)
                have NBW : Hid (Below w.heap.size w w9) := Lib.hid (HBW.out.trans (HB9.out.mono (by omega)))
                have c6 : w9.cell? ⟨w.heap.size + 1, 0, none⟩ = some (.int .i64 i) := (blk_cell N6.out 0).trans rfl
                have f6 := blk_frozen N6.out 0
                go_wp2_with fail
                go_roundg k
                case measure => omega
                case rel => exact rel_set HF.out (by have := HN.out; omega) hp2 (by have := HLL.out; simp; omega) HO.out N1.out N6.out NBW.out
            · have q3 : decide ((i : Int) < (p : Int)) = false := by simp; omega
              go_wp2_with fail
              refine start_ (n := 5) (S := fun w' => w'.cell? ⟨w.heap.size + 1, 0, none⟩ = some (.int .i64 i)) (ds := []) #[false, false, false, false, false] (by kernel_rfl) rfl rfl (cell_drew c6) (fun hHeld => ?_)
              refine pure_ (i := 0) (N := some 44) (v := ?_) (a' := ?_) #[true, false, false, false, false] rfl rfl (by kernel_rfl) (fun _ _ _ h => h) (Or.inl ⟨by rfl, ?_⟩) ?_ ?_
              rotate_left
              · intro w'
                go_simp
                with_reducible rfl
              rotate_left
              · simp only [Act.put, List.setIfInBounds_toArray, List.set_cons_zero, List.set_cons_succ, i64_w, i32_w]
                rfl
              refine take_ (i := 2) (N := some 46) (v := ?_) (a' := ?_) #[true, false, true, false, false] rfl rfl (by kernel_rfl) (fun _ _ _ h => h) (Or.inl ⟨by rfl, ?_⟩) hHeld ?_ ?_
              rotate_left
              · intro w' s0
                go_simp
                with_reducible rfl
              rotate_left
              · simp only [Act.put, List.setIfInBounds_toArray, List.set_cons_zero, List.set_cons_succ, i64_w, i32_w]
                rfl
              refine one_ (i := 1) (N := some 45) #[true, true, true, false, false] rfl rfl (by kernel_rfl) (by decide) (fun K hK => ?_)
              refine goesC_ Tryd.func23 (by kernel_rfl) rfl #[.string blanksT, .pointer (some ⟨w.heap.size + 1, 0, none⟩), .pointer (some ⟨w.heap.size, 0, none⟩)] (by rfl) rfl rfl (by rfl) (by simp only [List.map_toArray, List.map_cons, List.map_nil]; rfl) ?_
              with_reducible refine (row_any blanksT s (w.heap.size + 1) w.heap.size i _ (cell_drew c6) (cell_drew c1) hi (by omega)).mono ?_
              rintro e_ w2 ⟨rfl, rfl⟩
              refine ⟨_, rfl, ?_⟩
              rw [← HBB.out]
              refine hK.out _ _ (cell_drew c6) (fun hHeld => ?_)
              clear hK K
              refine norm_ (a' := ?_) ?_ ?_
              rotate_left
              · show Act.put _ (some 45) _ = _
                simp only [Act.put, List.setIfInBounds_toArray, List.set_cons_zero, List.set_cons_succ, i64_w, i32_w]
                rfl
              refine pure_ (i := 3) (N := some 47) (v := ?_) (a' := ?_) #[true, true, true, true, false] rfl rfl (by kernel_rfl) (fun _ _ _ h => h) (Or.inl ⟨by rfl, ?_⟩) ?_ ?_
              rotate_left
              · intro w'
                go_simp
                with_reducible rfl
              rotate_left
              · simp only [Act.put, List.setIfInBounds_toArray, List.set_cons_zero, List.set_cons_succ, i64_w, i32_w]
                rfl
              refine pure_ (i := 4) (N := some 43) (v := ?_) (a' := ?_) #[true, true, true, true, true] rfl rfl (by kernel_rfl) (fun _ _ _ h => h) (Or.inl ⟨by rfl, ?_⟩) ?_ ?_
              rotate_left
              · intro w'
                go_simp
                with_reducible rfl
              rotate_left
              · simp only [Act.put, List.setIfInBounds_toArray, List.set_cons_zero, List.set_cons_succ, i64_w, i32_w]
                rfl
              refine done_ (by kernel_rfl) ?_
              go_wp2_with fail
              obtain ⟨n, hn⟩ : ∃ n, n = signN (s.extract i s.size) := ⟨_, rfl⟩
              have hes : (s.extract i s.size).size = s.size - i := by simp
              have hnl : n ≤ s.size - i := by rw [hn, ← hes]; exact sign_le _ (by omega)
              refine (sign_is (s.extract i s.size) n hn.symm (by omega) (by omega) _ (HE.out.below (below_drew HBW.out) HE.out.six)).mono ?_
              rintro e_ w3 ⟨rfl, rfl⟩
              clear c1 c6 f6
              obtain ⟨wy, hwy⟩ : ∃ W_, W_ = wr.drew := ⟨_, rfl⟩
              rw [← hwy] at c1d c6d ⊢
              have MB1 : Hid (Box1 w s wy) := Lib.hid (by rw [hwy]; exact blk_drew B1.out)
              have MB6 : Hid (Box6 w i wy) := Lib.hid (by rw [hwy]; exact blk_drew B6.out)
              have MRR : Hid (Kd.R k30 30 wy (w.heap.size + 2) (fun _ => True) u5 l) := Lib.hid (by rw [hwy]; exact Kd.R_drew HRR.out)
              have MBW : Hid (Below w.heap.size w wy) := Lib.hid (by rw [hwy]; exact below_drew HBW.out)
              clear hwy B1 B6 HRR HBW hbs
              have hbs : w.heap.size + 2 ≤ wy.heap.size := blk_lt MB6.out
              have HN2 := Lib.hid hn
              clear hn hes
              by_cases hn0 : n = 0
              · have HF : Hid (r = ([], (i : Int), 2)) := Lib.hid (by rw [← HC2.out, if_neg hip, if_pos (by rw [← HN2.out]; exact hn0)])
                have q4 : ((n : Int) == 0) = true := by simp [hn0]
                go_wp2_with fail
                refine start_ (n := 4) (S := fun w' => w'.cell? ⟨w.heap.size + 1, 0, none⟩ = some (.int .i64 i)) (ds := []) #[false, false, false, false] (by kernel_rfl) rfl rfl (cell_drew c6d) (fun hHeld => ?_)
                refine pure_ (i := 1) (N := some 2) (v := ?_) (a' := ?_) #[false, true, false, false] rfl rfl (by kernel_rfl) (fun _ _ _ h => h) (Or.inl ⟨by rfl, ?_⟩) ?_ ?_
                rotate_left
                · intro w'
                  go_simp
                  with_reducible rfl
                rotate_left
                · simp only [Act.put, List.setIfInBounds_toArray, List.set_cons_zero, List.set_cons_succ, i64_w, i32_w]
                  rfl
                refine take_ (i := 0) (N := some 28) (v := ?_) (a' := ?_) #[true, true, false, false] rfl rfl (by kernel_rfl) (fun _ _ _ h => h) (Or.inl ⟨by rfl, ?_⟩) hHeld ?_ ?_
                rotate_left
                · intro w' s0
                  go_simp
                  with_reducible rfl
                rotate_left
                · simp only [Act.put, List.setIfInBounds_toArray, List.set_cons_zero, List.set_cons_succ, i64_w, i32_w]
                  rfl
                refine pure_ (i := 2) (N := some 3) (v := ?_) (a' := ?_) #[true, true, true, false] rfl rfl (by kernel_rfl) (fun _ _ _ h => h) (Or.inl ⟨by rfl, ?_⟩) ?_ ?_
                rotate_left
                · intro w'
                  go_simp
                  with_reducible rfl
                rotate_left
                · simp only [Act.put, List.setIfInBounds_toArray, List.set_cons_zero, List.set_cons_succ, i64_w, i32_w]
                  rfl
                refine pure_ (i := 3) (N := some 4) (v := ?_) (a' := ?_) #[true, true, true, true] rfl rfl (by kernel_rfl) (fun _ _ _ h => h) (Or.inl ⟨by rfl, ?_⟩) ?_ ?_
                rotate_left
                · intro w'
                  go_simp
                  with_reducible rfl
                rotate_left
                · simp only [Act.put, List.setIfInBounds_toArray, List.set_cons_zero, List.set_cons_succ, i64_w, i32_w]
                  rfl
                refine done_ (by kernel_rfl) ?_
                go_wp2_with fail
                go_ret3
                exact ⟨.slice none 0 0, by rw [HF.out]; rfl, by rw [HF.out]; exact Kd.R_nil _ _ _ _ _, below_drew MBW.out⟩
              · have HF : Hid (cutN s k (i + n) (l ++ [(⟨3, 0, i, (s.extract i (i + n))⟩ : S30)]) = r) := Lib.hid (by have h := HC2.out; rw [if_neg hip, ← HN2.out, if_neg hn0] at h; exact h)
                have q4 : ((n : Int) == 0) = false := by simp [hn0]
                have hin : i + n ≤ s.size := by omega
                have hin2 : (i : Int) + (n : Int) ≤ (s.size : Int) := by omega
                have hin3 : (i : Int) ≤ (i : Int) + (n : Int) := by omega
                have hin4 : (0 : Int) ≤ (i : Int) + (n : Int) := by omega
                have hin5 : ((i : Int) + (n : Int)).toNat = i + n := by omega
                have hwrap : IntKind.i64.wrap ((i : Int) + (n : Int)) = (i : Int) + (n : Int) := by have := hsz; rw [i64_w]; unfold wrap64; push_cast; omega
                go_wp2_with fail
                refine start_ (n := 16) (S := fun w' => w'.cell? ⟨w.heap.size, 0, none⟩ = some (.string s) ∧ w'.cell? ⟨w.heap.size + 1, 0, none⟩ = some (.int .i64 i)) (ds := [15]) #[false, false, false, false, false, false, false, false, false, false, false, false, false, false, false, false] (by kernel_rfl) rfl rfl ⟨cell_drew c1d, cell_drew c6d⟩ (fun hHeld => ?_)
                refine pure_ (i := 0) (N := some 29) (v := ?_) (a' := ?_) #[true, false, false, false, false, false, false, false, false, false, false, false, false, false, false, false] rfl rfl (by kernel_rfl) (fun _ _ _ h => h) (Or.inl ⟨by rfl, ?_⟩) ?_ ?_
                rotate_left
                · intro w'
                  go_simp
                  with_reducible rfl
                rotate_left
                · simp only [Act.put, List.setIfInBounds_toArray, List.set_cons_zero, List.set_cons_succ, i64_w, i32_w]
                  rfl
                refine pure_ (i := 4) (N := some 33) (v := ?_) (a' := ?_) #[true, false, false, false, true, false, false, false, false, false, false, false, false, false, false, false] rfl rfl (by kernel_rfl) (fun _ _ _ h => h) (Or.inl ⟨by rfl, ?_⟩) ?_ ?_
                rotate_left
                · intro w'
                  go_simp
                  with_reducible rfl
                rotate_left
                · simp only [Act.put, List.setIfInBounds_toArray, List.set_cons_zero, List.set_cons_succ, i64_w, i32_w]
                  rfl
                refine pure_ (i := 12) (N := some 41) (v := ?_) (a' := ?_) #[true, false, false, false, true, false, false, false, false, false, false, false, true, false, false, false] rfl rfl (by kernel_rfl) (fun _ _ _ h => h) (Or.inl ⟨by rfl, ?_⟩) ?_ ?_
                rotate_left
                · intro w'
                  go_simp
                  with_reducible rfl
                rotate_left
                · simp only [Act.put, List.setIfInBounds_toArray, List.set_cons_zero, List.set_cons_succ, i64_w, i32_w]
                  rfl
                refine take_ (i := 1) (N := some 30) (v := ?_) (a' := ?_) #[true, true, false, false, true, false, false, false, false, false, false, false, true, false, false, false] rfl rfl (by kernel_rfl) (fun _ _ _ h => h) (Or.inl ⟨by rfl, ?_⟩) hHeld ?_ ?_
                rotate_left
                · rintro w' ⟨s0, s1⟩
                  go_simp
                  with_reducible rfl
                rotate_left
                · simp only [Act.put, List.setIfInBounds_toArray, List.set_cons_zero, List.set_cons_succ, i64_w, i32_w]
                  rfl
                refine take_ (i := 2) (N := some 31) (v := ?_) (a' := ?_) #[true, true, true, false, true, false, false, false, false, false, false, false, true, false, false, false] rfl rfl (by kernel_rfl) (fun _ _ _ h => h) (Or.inl ⟨by rfl, ?_⟩) hHeld ?_ ?_
                rotate_left
                · rintro w' ⟨s0, s1⟩
                  go_simp
                  with_reducible rfl
                rotate_left
                · simp only [Act.put, List.setIfInBounds_toArray, List.set_cons_zero, List.set_cons_succ, i64_w, i32_w]
                  rfl
                refine take_ (i := 3) (N := some 32) (v := ?_) (a' := ?_) #[true, true, true, true, true, false, false, false, false, false, false, false, true, false, false, false] rfl rfl (by kernel_rfl) (fun _ _ _ h => h) (Or.inl ⟨by rfl, ?_⟩) hHeld ?_ ?_
                rotate_left
                · rintro w' ⟨s0, s1⟩
                  go_simp
                  with_reducible rfl
                rotate_left
                · simp only [Act.put, List.setIfInBounds_toArray, List.set_cons_zero, List.set_cons_succ, i64_w, i32_w]
                  rfl
                refine pure_ (i := 5) (N := some 34) (v := ?_) (a' := ?_) #[true, true, true, true, true, true, false, false, false, false, false, false, true, false, false, false] rfl rfl (by kernel_rfl) (fun _ _ _ h => h) (Or.inl ⟨by rfl, ?_⟩) ?_ ?_
                rotate_left
                · intro w'
                  go_simp
                  with_reducible rfl
                rotate_left
                · simp only [Act.put, List.setIfInBounds_toArray, List.set_cons_zero, List.set_cons_succ, i64_w, i32_w]
                  rfl
                refine pure_ (i := 6) (N := some 35) (v := ?_) (a' := ?_) #[true, true, true, true, true, true, true, false, false, false, false, false, true, false, false, false] rfl rfl (by kernel_rfl) (fun _ _ _ h => h) (Or.inl ⟨by rfl, ?_⟩) ?_ ?_
                rotate_left
                · intro w'
                  go_simp
                  with_reducible rfl
                rotate_left
                · simp only [Act.put, List.setIfInBounds_toArray, List.set_cons_zero, List.set_cons_succ, i64_w, i32_w]
                  rfl
                refine take_ (i := 7) (N := some 36) (v := ?_) (a' := ?_) #[true, true, true, true, true, true, true, true, false, false, false, false, true, false, false, false] rfl rfl (by kernel_rfl) (fun _ _ _ h => h) (Or.inl ⟨by rfl, ?_⟩) hHeld ?_ ?_
                rotate_left
                · rintro w' ⟨s0, s1⟩
                  go_simp
                  with_reducible rfl
                rotate_left
                · simp only [Act.put, List.setIfInBounds_toArray, List.set_cons_zero, List.set_cons_succ, i64_w, i32_w]
                  rfl
                refine pure_ (i := 8) (N := some 37) (v := ?_) (a' := ?_) #[true, true, true, true, true, true, true, true, true, false, false, false, true, false, false, false] rfl rfl (by kernel_rfl) (fun _ _ _ h => h) (Or.inl ⟨by rfl, ?_⟩) ?_ ?_
                rotate_left
                · intro w'
                  go_simp
                  with_reducible rfl
                rotate_left
                · simp only [Act.put, List.setIfInBounds_toArray, List.set_cons_zero, List.set_cons_succ, i64_w, i32_w]
                  rfl
                refine take_ (i := 11) (N := some 40) (v := ?_) (a' := ?_) #[true, true, true, true, true, true, true, true, true, false, false, true, true, false, false, false] rfl rfl (by kernel_rfl) (fun _ _ _ h => h) (Or.inl ⟨by rfl, ?_⟩) hHeld ?_ ?_
                rotate_left
                · rintro w' ⟨s0, s1⟩
                  go_simp
                  with_reducible rfl
                rotate_left
                · simp only [Act.put, List.setIfInBounds_toArray, List.set_cons_zero, List.set_cons_succ, i64_w, i32_w]
                  rfl
                refine pure_ (i := 13) (N := some 42) (v := ?_) (a' := ?_) #[true, true, true, true, true, true, true, true, true, false, false, true, true, true, false, false] rfl rfl (by kernel_rfl) (fun _ _ _ h => h) (Or.inl ⟨by rfl, ?_⟩) ?_ ?_
                rotate_left
                · intro w'
                  go_simp
                  with_reducible rfl
                rotate_left
                · simp only [Act.put, List.setIfInBounds_toArray, List.set_cons_zero, List.set_cons_succ, i64_w, i32_w]
                  rfl
                refine one_ (i := 9) (N := some 38) #[true, true, true, true, true, true, true, true, true, true, false, true, true, true, false, false] rfl rfl (by kernel_rfl) (by decide) (fun K hK => ?_)
                refine value_ (w1 := (wy.drew).alloc (.cells #[.int .i64 3, .int .i64 0, .int .i64 i, .string (s.extract i (i + n))] 30)) (v := .slice (some ⟨wy.drew.heap.size, 0, none⟩) 1 1) (by rfl) rfl ?_ ?_
                · first | (go_simp; done) | (go_simp; rfl)
                refine hK.out _ _ ⟨cell_alloc_old (cell_drew c1d), cell_alloc_old (cell_drew c6d)⟩ (fun hHeld => ?_)
                clear hK K
                refine norm_ (a' := ?_) ?_ ?_
                rotate_left
                · show Act.put _ (some 38) _ = _
                  simp only [Act.put, List.setIfInBounds_toArray, List.set_cons_zero, List.set_cons_succ, i64_w, i32_w]
                  rfl
                refine one_ (i := 10) (N := some 39) #[true, true, true, true, true, true, true, true, true, true, true, true, true, true, false, false] rfl rfl (by kernel_rfl) (by decide) (fun K hK => ?_)
                refine Kd.R_append_step k30 (w0 := wy.drew) (w.heap.size + 2) (by rfl) (.tmp 29) (.tmp 38) 23 30 (.agg #[(.int .i64 0), (.int .i64 0), (.int .i64 0), (.string ⟨#[]⟩)]) 40 (by rfl) Tryd.underlying23 info30 rfl (by decide) (by omega) u5 l (⟨3, 0, i, (s.extract i (i + n))⟩ : S30) [.int .i64 3, .int .i64 0, .int .i64 i, .string (s.extract i (i + n))] (fun _ => True) (fun _ => False) (by rfl) (by rfl) (k30_mkM _ _ _ (⟨3, 0, i, (s.extract i (i + n))⟩ : S30)) (fun _ hk => hk.elim) (fun _ _ => trivial) (Kd.R_drew MRR.out) (Below.refl _ _) hbs (by have := HLL.out; omega) ?_
                intro v9 w9 ho_ hb_ hg_ hat_
                have HO := Lib.hid ho_
                have HB9 := Lib.hid hb_
                have N1 : Hid (Box1 w s w9) := Lib.hid ((HB9.out.block _ (by omega)).trans (blk_drew MB1.out))
                have N6 : Hid (Box6 w i w9) := Lib.hid ((HB9.out.block _ (by omega)).trans (blk_drew MB6.out))
                have NBW : Hid (Below w.heap.size w w9) := Lib.hid ((below_drew MBW.out).trans (HB9.out.mono (by omega)))
                have cy1 : w9.cell? ⟨w.heap.size, 0, none⟩ = some (.string s) := (blk_cell N1.out 0).trans rfl
                have cy6 : w9.cell? ⟨w.heap.size + 1, 0, none⟩ = some (.int .i64 i) := (blk_cell N6.out 0).trans rfl
                have fy6 := blk_frozen N6.out 0
                clear ho_ hb_ hg_ hat_
                refine hK.out _ _ ⟨cy1, cy6⟩ (fun hHeld => ?_)
                clear hK K
                refine norm_ (a' := ?_) ?_ ?_
                rotate_left
                · show Act.put _ (some 39) _ = _
                  simp only [Act.put, List.setIfInBounds_toArray, List.set_cons_zero, List.set_cons_succ, i64_w, i32_w]
                  rfl
                refine pure_ (i := 14) (N := some 5) (v := ?_) (a' := ?_) #[true, true, true, true, true, true, true, true, true, true, true, true, true, true, true, false] rfl rfl (by kernel_rfl) (fun _ _ _ h => h) (Or.inl ⟨by rfl, ?_⟩) ?_ ?_
                rotate_left
                · intro w'
                  go_simp
                  with_reducible rfl
                rotate_left
                · simp only [Act.put, List.setIfInBounds_toArray, List.set_cons_zero, List.set_cons_succ, i64_w, i32_w]
                  rfl
                refine last_ (i := 15) (N := none) #[true, true, true, true, true, true, true, true, true, true, true, true, true, true, true, true] rfl rfl (by kernel_rfl) (by decide) (fun K hK => ?_)
                refine skip_ (w1 := ?_) (by rfl) rfl ?_ ?_
                rotate_left
                · go_simp
                  rfl
                refine hK.out _ _ ?_
                clear hK K
                refine done_ (by kernel_rfl) ?_
                go_wp2_with fail
                go_roundg k
                case measure => omega
                case rel => exact rel_set HF.out (by have := HN.out; omega) hin (by have := HLL.out; simp; omega) HO.out N1.out N6.out NBW.out
      · have hr : r = (l ++ [⟨5, 0, s.size, ⟨#[]⟩⟩], 0, 0) := by rw [← HC.out, cutN, dif_neg hlt]
        have HF := Lib.hid hr
        clear hr
        go_wp2_with (((with_reducible refine gate_builtin (b := .append) (xs := #[.tmp 88, .tmp 92]) rfl ?_); at_builtin; refine Stp.out ?_))
        unfold Stp
        refine Kd.R_append k30 (w0 := wr) (w.heap.size + 2) rfl (.tmp 88) (.tmp 92) 23 30 (.agg #[(.int .i64 0), (.int .i64 0), (.int .i64 0), (.string ⟨#[]⟩)]) 40 rfl Tryd.underlying23 info30 rfl (by decide) (by omega) u5 l (⟨5, 0, s.size, ⟨#[]⟩⟩ : S30) [.int .i64 5, .int .i64 0, .int .i64 s.size, .string ⟨#[]⟩] (fun _ => True) (fun _ => False) rfl rfl (k30_mkM _ _ _ (⟨5, 0, s.size, ⟨#[]⟩⟩ : S30)) (fun _ hk => hk.elim) (fun _ _ => trivial) HRR.out (Below.refl _ _) hbs (by have := HLL.out; omega) ?_
        intro v9 w9 ho_ hb_ hg_ hat_
        have HO := Lib.hid ho_
        have HB9 := Lib.hid hb_
        clear ho_ hb_ hg_ hat_
        go_wp2_with fail
        go_ret3
        refine ⟨v9, by rw [HF.out]; rfl, by rw [HF.out]; exact Kd.R_lower HO.out (by omega), ?_⟩
        exact HBW.out.trans (HB9.out.mono (by omega))
end Go.Proofs.YtjlcbhlpibgplaaDoor.P
