import Derived.Test.YtkhlfdcjgooogaaTyK
set_option linter.unusedVariables false
set_option linter.unusedSimpArgs false
namespace Go.Proofs.Ytkhlfdcjgooogaa.P
open Go.RowKit Go.Proofs.YtkhlfdcjgooogaaW.PrintWords Go.Proofs.YtkhlfdcjgooogaaW.PrintLast Go.Proofs.YtkhlfdcjgooogaaW.PrintMore
section
variable {P : Program} {ops : Array Oper} {Q : Exit → Act → World → Prop}
theorem goesV_ {oi : Oper} {N : Option Tmp} {a : Act} {w : World} {K : Act → World → Prop} {f : FuncId} {fn : Func} {t : Tmp} {cap : Array Value} {xs_ : Array Operand} {ts : Array TypeId} (hf : P.funcs[f]? = some fn) (hname : (fn.name == "runtime.NumGoroutine") = false) (hb : fn.body.isSome = true) (args : Array Value)
  (hw : Region.wanted oi (yielded ops a.tmps) = true) (hN : oi.dst = N) (hop : oi.op = .call { callee := .value (.tmp t), args := xs_, argTypes := ts }) (ho : a.tmps.getD t undef = .func (.func f) #[] cap) (hargs : xs_.map a.eval ++ cap = args)
  (h : Calls P f args w fun e w' => ∃ v, e = .returned v ∧ K (a.put N v) w') : if Region.wanted oi (yielded ops a.tmps) = true then Oper.wp P oi a w K Q else K (a.put N undef) w := by
 refine call_ f args hw hN ?_ h
 have he := enters_ hf hname hb args w
 unfold execOp
 have ho2 : a.tmps[t]?.getD undef = .func (.func f) #[] cap := by rw [← ho]; simp
 have ha2 : Array.map (Act.eval a) xs_ ++ cap = args := hargs
 simp only [hop, resolve, Deferred.ofValue, invoke]
 simp only [Act.eval, Array.getD_eq_getD_getElem?, ho2]
 simp [Act.eval, ← hargs] at he ⊢
 exact he
end
set_option maxRecDepth 100000 in
set_option maxHeartbeats 8000000 in
theorem check_22 (p : Nat) (At : Option Addr) (ct : Nat) (ns : List S101) (root : Int) (ol : List Int) (q : Int) (h0 : 0 ≤ q) (h1 : q < ns.length) (hk : kdOf ns q = 22) (hKI : KidsIn ns) (w : World) (hS : Sc p At ct ns root ol w) :
  Calls Try.prog 52 #[.pointer (some ⟨p, 0, none⟩), .int .i64 q] w fun e w' => e = .returned (.int .i64 (namedF ns ol q true)) ∧ Below w.heap.size w w' := by
 have hmf : ∀ (fn : Fn) (first cap : Array Value) (w : World), (Instr.makeFunc fn first cap).run Try.prog w = .ok (.func fn first cap) w := fun _ _ _ _ => rfl
 have hkq := hKI (rd_T101 ns q) (rd24_mem ns q h0 h1)
 have hsz := KidsIn.size hS h0 h1
 have hbx : Below w.heap.size w (w.alloc (.cells #[.pointer (some ⟨p, 0, none⟩)] 102)) := below_alloc (Below.refl _ _) _
 obtain ⟨Wb, hWb⟩ : ∃ W_, W_ = w.alloc (.cells #[.pointer (some ⟨p, 0, none⟩)] 102) := ⟨_, rfl⟩
 rw [← hWb] at hbx
 obtain ⟨bo, g, r0, l, Lb, h⟩ := hS.below hbx
 have cp0 : Wb.cell? ⟨p, 0, none⟩ = some (.slice At ns.length ct) := (blk_cell h.hp 0).trans rfl
 have cb : Wb.cell? ⟨w.heap.size, 0, none⟩ = some (.pointer (some ⟨p, 0, none⟩)) := by rw [hWb]; exact (blk_cell (heap_alloc_new w _) 0).trans rfl
 obtain ⟨ad, A4, c4, eA, z0, z1, z2, z3, z4, l4, g4⟩ := at_T101 h.hC q h0 h1
 have e0 := eq_true h0
 have e1 := eq_true h1
 have hk0 : kdOf ns q = (rd_T101 ns q).f0 := rfl
 have ht0 : nmOf ns q = (rd_T101 ns q).f3.data.toList := rfl
 obtain ⟨x, hx⟩ : ∃ x, x = rd_T101 ns q := ⟨_, rfl⟩
 rw [← hx] at z0 z1 z2 z3 z4 l4 g4 hkq hsz hk0 ht0
 obtain ⟨k, n, at_, tx, kl⟩ := x
 dsimp only at z0 z1 z2 z3 z4 l4 g4 hkq hsz hk0 ht0
 rw [hk] at hk0
 subst hk0
 have x3 := heap_alloc_new w (.cells #[.pointer (some ⟨p, 0, none⟩)] 102)
 rw [← hWb] at x3
 have hb0 : Below w.heap.size w (Wb.alloc (.cells #[.int .i64 22, .int .i64 n, .int .i64 at_, .string tx, .slice A4 kl.length c4] 101)) := below_alloc hbx _
 have hbC : Below Wb.heap.size Wb (Wb.alloc (.cells #[.int .i64 22, .int .i64 n, .int .i64 at_, .string tx, .slice A4 kl.length c4] 101)) := below_alloc (Below.refl _ _) _
 replace x3 := blk_alloc x3 (.cells #[.int .i64 22, .int .i64 n, .int .i64 at_, .string tx, .slice A4 kl.length c4] 101)
 have x5 := heap_alloc_new Wb (.cells #[.int .i64 22, .int .i64 n, .int .i64 at_, .string tx, .slice A4 kl.length c4] 101)
 rw [show Wb.heap.size = w.heap.size + 1 from by rw [hWb]; simp] at x5
 have HCW := Lib.hid (fun (w' : World) (hb : Below (Wb.alloc (.cells #[.int .i64 22, .int .i64 n, .int .i64 at_, .string tx, .slice A4 kl.length c4] 101)).heap.size (Wb.alloc (.cells #[.int .i64 22, .int .i64 n, .int .i64 at_, .string tx, .slice A4 kl.length c4] 101)) w') => Kd.C_below (Kd.C_below g4 hbC) hb)
 obtain ⟨W0, hW0⟩ : ∃ W_, W_ = Wb.alloc (.cells #[.int .i64 22, .int .i64 n, .int .i64 at_, .string tx, .slice A4 kl.length c4] 101) := ⟨_, rfl⟩
 rw [← hW0] at hb0 x3 x5 HCW
 have HB0 := Lib.hid hb0
 have X30 := Lib.hid x3
 have X50 := Lib.hid x5
 have HW0 := Lib.hid hW0
 have HS := Lib.hid (fun (w' : World) (hb : Below w.heap.size w w') => hS.below hb)
 have HKQ := Lib.hid hkq
 have hkl := hkq.2
 have HSZ := Lib.hid hsz
 have HT0 := Lib.hid ht0
 have HKI := Lib.hid hKI
 cases eA
 clear h hb0 hbC x3 x5 hW0 hbx g4 hkq hsz hx hKI hk hS
 obtain ⟨R, hR⟩ : ∃ R, R = namedF ns ol q (true) := ⟨_, rfl⟩
 rw [← hR]
 have HN := Lib.hid (named_any p (some ad) ct ns root ol q h0 h1 (true) W0 (HS.out W0 HB0.out) (fun w' _ => tany_calls _ w'))
 rw [← hR] at HN
 clear hR
 subst hWb
 go_enter Try.func52, Try.ntmps52
 go_wp2_with fail
 rw [← HW0.out]
 clear z0 z1 z2 z3 z4 cp0 cb e0 e1
 refine HN.out.mono ?_
 rintro e_ W1 ⟨rfl, hb_⟩
 have HB1 := Lib.hid (below_step (HB0.out) hb_)
 have X31 := Lib.hid (blk_below (X30.out) hb_)
 have X51 := Lib.hid (blk_below (X50.out) hb_)
 clear hb_
 go_wp2_with fail
 go_ret
 exact ⟨rfl, HB1.out⟩
set_option maxRecDepth 100000 in
set_option maxHeartbeats 8000000 in
theorem check_23 (p : Nat) (At : Option Addr) (ct : Nat) (ns : List S101) (root : Int) (ol : List Int) (q : Int) (h0 : 0 ≤ q) (h1 : q < ns.length) (hk : kdOf ns q = 23) (hKI : KidsIn ns) (w : World) (hS : Sc p At ct ns root ol w) :
  Calls Try.prog 52 #[.pointer (some ⟨p, 0, none⟩), .int .i64 q] w fun e w' => e = .returned (.int .i64 (namedF ns ol q (kindF ns ol q (nmOf ns q) == 3 && allF ns ol 1 (rd_T101 ns q).f4))) ∧ Below w.heap.size w w' := by
 have hmf : ∀ (fn : Fn) (first cap : Array Value) (w : World), (Instr.makeFunc fn first cap).run Try.prog w = .ok (.func fn first cap) w := fun _ _ _ _ => rfl
 have hkq := hKI (rd_T101 ns q) (rd24_mem ns q h0 h1)
 have hsz := KidsIn.size hS h0 h1
 have hbx : Below w.heap.size w (w.alloc (.cells #[.pointer (some ⟨p, 0, none⟩)] 102)) := below_alloc (Below.refl _ _) _
 obtain ⟨Wb, hWb⟩ : ∃ W_, W_ = w.alloc (.cells #[.pointer (some ⟨p, 0, none⟩)] 102) := ⟨_, rfl⟩
 rw [← hWb] at hbx
 obtain ⟨bo, g, r0, l, Lb, h⟩ := hS.below hbx
 have cp0 : Wb.cell? ⟨p, 0, none⟩ = some (.slice At ns.length ct) := (blk_cell h.hp 0).trans rfl
 have cb : Wb.cell? ⟨w.heap.size, 0, none⟩ = some (.pointer (some ⟨p, 0, none⟩)) := by rw [hWb]; exact (blk_cell (heap_alloc_new w _) 0).trans rfl
 obtain ⟨ad, A4, c4, eA, z0, z1, z2, z3, z4, l4, g4⟩ := at_T101 h.hC q h0 h1
 have e0 := eq_true h0
 have e1 := eq_true h1
 have hk0 : kdOf ns q = (rd_T101 ns q).f0 := rfl
 have ht0 : nmOf ns q = (rd_T101 ns q).f3.data.toList := rfl
 obtain ⟨x, hx⟩ : ∃ x, x = rd_T101 ns q := ⟨_, rfl⟩
 rw [← hx] at z0 z1 z2 z3 z4 l4 g4 hkq hsz hk0 ht0 ⊢
 obtain ⟨k, n, at_, tx, kl⟩ := x
 dsimp only at z0 z1 z2 z3 z4 l4 g4 hkq hsz hk0 ht0 ⊢
 rw [hk] at hk0
 subst hk0
 have x3 := heap_alloc_new w (.cells #[.pointer (some ⟨p, 0, none⟩)] 102)
 rw [← hWb] at x3
 have hb0 : Below w.heap.size w (Wb.alloc (.cells #[.int .i64 23, .int .i64 n, .int .i64 at_, .string tx, .slice A4 kl.length c4] 101)) := below_alloc hbx _
 have hbC : Below Wb.heap.size Wb (Wb.alloc (.cells #[.int .i64 23, .int .i64 n, .int .i64 at_, .string tx, .slice A4 kl.length c4] 101)) := below_alloc (Below.refl _ _) _
 replace x3 := blk_alloc x3 (.cells #[.int .i64 23, .int .i64 n, .int .i64 at_, .string tx, .slice A4 kl.length c4] 101)
 have x5 := heap_alloc_new Wb (.cells #[.int .i64 23, .int .i64 n, .int .i64 at_, .string tx, .slice A4 kl.length c4] 101)
 rw [show Wb.heap.size = w.heap.size + 1 from by rw [hWb]; simp] at x5
 have HCW := Lib.hid (fun (w' : World) (hb : Below (Wb.alloc (.cells #[.int .i64 23, .int .i64 n, .int .i64 at_, .string tx, .slice A4 kl.length c4] 101)).heap.size (Wb.alloc (.cells #[.int .i64 23, .int .i64 n, .int .i64 at_, .string tx, .slice A4 kl.length c4] 101)) w') => Kd.C_below (Kd.C_below g4 hbC) hb)
 obtain ⟨W0, hW0⟩ : ∃ W_, W_ = Wb.alloc (.cells #[.int .i64 23, .int .i64 n, .int .i64 at_, .string tx, .slice A4 kl.length c4] 101) := ⟨_, rfl⟩
 rw [← hW0] at hb0 x3 x5 HCW
 have HB0 := Lib.hid hb0
 have X30 := Lib.hid x3
 have X50 := Lib.hid x5
 have HW0 := Lib.hid hW0
 have HS := Lib.hid (fun (w' : World) (hb : Below w.heap.size w w') => hS.below hb)
 have HKQ := Lib.hid hkq
 have hkl := hkq.2
 have HSZ := Lib.hid hsz
 have HT0 := Lib.hid ht0
 have HKI := Lib.hid hKI
 cases eA
 clear h hb0 hbC x3 x5 hW0 hbx g4 hkq hsz hx hKI hk hS
 obtain ⟨R, hR⟩ : ∃ R, R = namedF ns ol q (kindF ns ol q (nmOf ns q) == 3 && allF ns ol 1 kl) := ⟨_, rfl⟩
 rw [← hR]
 have HN := Lib.hid (named_arr p (some ad) ct ns root ol q h0 h1 w.heap.size (w.heap.size + 1) (kindF ns ol q (nmOf ns q) == 3 && allF ns ol 1 kl) W0 (HS.out W0 HB0.out) (fun w' hb => tarr_calls w.heap.size (w.heap.size + 1) p (some ad) ct ns root ol _ A4 c4 kl HKQ.out.1 HKQ.out.2 w' (HS.out w' (below_step HB0.out hb)) (HCW.out w' hb) l4 ((blk_cell (blk_below X30.out hb) 0).trans rfl) ((blk_cell (blk_below X50.out hb) 4).trans rfl)))
 rw [← hR] at HN
 clear hR
 subst hWb
 go_enter Try.func52, Try.ntmps52
 go_wp2_with fail
 rw [← HW0.out]
 clear z0 z1 z2 z3 z4 cp0 cb e0 e1
 refine HN.out.mono ?_
 rintro e_ W1 ⟨rfl, hb_⟩
 have HB1 := Lib.hid (below_step (HB0.out) hb_)
 have X31 := Lib.hid (blk_below (X30.out) hb_)
 have X51 := Lib.hid (blk_below (X50.out) hb_)
 clear hb_
 go_wp2_with fail
 go_ret
 exact ⟨rfl, HB1.out⟩
set_option maxRecDepth 100000 in
set_option maxHeartbeats 8000000 in
theorem check_8 (p : Nat) (At : Option Addr) (ct : Nat) (ns : List S101) (root : Int) (ol : List Int) (q : Int) (h0 : 0 ≤ q) (h1 : q < ns.length) (hk : kdOf ns q = 8) (hKI : KidsIn ns) (w : World) (hS : Sc p At ct ns root ol w) :
  Calls Try.prog 52 #[.pointer (some ⟨p, 0, none⟩), .int .i64 q] w fun e w' => e = .returned (.int .i64 (namedF ns ol q (kindF ns ol q (nmOf ns q) == 3 && allF ns ol 1 (rd_T101 ns q).f4))) ∧ Below w.heap.size w w' := by
 have hmf : ∀ (fn : Fn) (first cap : Array Value) (w : World), (Instr.makeFunc fn first cap).run Try.prog w = .ok (.func fn first cap) w := fun _ _ _ _ => rfl
 have hkq := hKI (rd_T101 ns q) (rd24_mem ns q h0 h1)
 have hsz := KidsIn.size hS h0 h1
 have hbx : Below w.heap.size w (w.alloc (.cells #[.pointer (some ⟨p, 0, none⟩)] 102)) := below_alloc (Below.refl _ _) _
 obtain ⟨Wb, hWb⟩ : ∃ W_, W_ = w.alloc (.cells #[.pointer (some ⟨p, 0, none⟩)] 102) := ⟨_, rfl⟩
 rw [← hWb] at hbx
 obtain ⟨bo, g, r0, l, Lb, h⟩ := hS.below hbx
 have cp0 : Wb.cell? ⟨p, 0, none⟩ = some (.slice At ns.length ct) := (blk_cell h.hp 0).trans rfl
 have cb : Wb.cell? ⟨w.heap.size, 0, none⟩ = some (.pointer (some ⟨p, 0, none⟩)) := by rw [hWb]; exact (blk_cell (heap_alloc_new w _) 0).trans rfl
 obtain ⟨ad, A4, c4, eA, z0, z1, z2, z3, z4, l4, g4⟩ := at_T101 h.hC q h0 h1
 have e0 := eq_true h0
 have e1 := eq_true h1
 have hk0 : kdOf ns q = (rd_T101 ns q).f0 := rfl
 have ht0 : nmOf ns q = (rd_T101 ns q).f3.data.toList := rfl
 obtain ⟨x, hx⟩ : ∃ x, x = rd_T101 ns q := ⟨_, rfl⟩
 rw [← hx] at z0 z1 z2 z3 z4 l4 g4 hkq hsz hk0 ht0 ⊢
 obtain ⟨k, n, at_, tx, kl⟩ := x
 dsimp only at z0 z1 z2 z3 z4 l4 g4 hkq hsz hk0 ht0 ⊢
 rw [hk] at hk0
 subst hk0
 have x3 := heap_alloc_new w (.cells #[.pointer (some ⟨p, 0, none⟩)] 102)
 rw [← hWb] at x3
 have hb0 : Below w.heap.size w (Wb.alloc (.cells #[.int .i64 8, .int .i64 n, .int .i64 at_, .string tx, .slice A4 kl.length c4] 101)) := below_alloc hbx _
 have hbC : Below Wb.heap.size Wb (Wb.alloc (.cells #[.int .i64 8, .int .i64 n, .int .i64 at_, .string tx, .slice A4 kl.length c4] 101)) := below_alloc (Below.refl _ _) _
 replace x3 := blk_alloc x3 (.cells #[.int .i64 8, .int .i64 n, .int .i64 at_, .string tx, .slice A4 kl.length c4] 101)
 have x5 := heap_alloc_new Wb (.cells #[.int .i64 8, .int .i64 n, .int .i64 at_, .string tx, .slice A4 kl.length c4] 101)
 rw [show Wb.heap.size = w.heap.size + 1 from by rw [hWb]; simp] at x5
 have HCW := Lib.hid (fun (w' : World) (hb : Below (Wb.alloc (.cells #[.int .i64 8, .int .i64 n, .int .i64 at_, .string tx, .slice A4 kl.length c4] 101)).heap.size (Wb.alloc (.cells #[.int .i64 8, .int .i64 n, .int .i64 at_, .string tx, .slice A4 kl.length c4] 101)) w') => Kd.C_below (Kd.C_below g4 hbC) hb)
 obtain ⟨W0, hW0⟩ : ∃ W_, W_ = Wb.alloc (.cells #[.int .i64 8, .int .i64 n, .int .i64 at_, .string tx, .slice A4 kl.length c4] 101) := ⟨_, rfl⟩
 rw [← hW0] at hb0 x3 x5 HCW
 have HB0 := Lib.hid hb0
 have X30 := Lib.hid x3
 have X50 := Lib.hid x5
 have HW0 := Lib.hid hW0
 have HS := Lib.hid (fun (w' : World) (hb : Below w.heap.size w w') => hS.below hb)
 have HKQ := Lib.hid hkq
 have hkl := hkq.2
 have HSZ := Lib.hid hsz
 have HT0 := Lib.hid ht0
 have HKI := Lib.hid hKI
 cases eA
 clear h hb0 hbC x3 x5 hW0 hbx g4 hkq hsz hx hKI hk hS
 obtain ⟨R, hR⟩ : ∃ R, R = namedF ns ol q (kindF ns ol q (nmOf ns q) == 3 && allF ns ol 1 kl) := ⟨_, rfl⟩
 rw [← hR]
 have HN := Lib.hid (named_arr p (some ad) ct ns root ol q h0 h1 w.heap.size (w.heap.size + 1) (kindF ns ol q (nmOf ns q) == 3 && allF ns ol 1 kl) W0 (HS.out W0 HB0.out) (fun w' hb => tarr_calls w.heap.size (w.heap.size + 1) p (some ad) ct ns root ol _ A4 c4 kl HKQ.out.1 HKQ.out.2 w' (HS.out w' (below_step HB0.out hb)) (HCW.out w' hb) l4 ((blk_cell (blk_below X30.out hb) 0).trans rfl) ((blk_cell (blk_below X50.out hb) 4).trans rfl)))
 rw [← hR] at HN
 clear hR
 subst hWb
 go_enter Try.func52, Try.ntmps52
 go_wp2_with fail
 rw [← HW0.out]
 clear z0 z1 z2 z3 z4 cp0 cb e0 e1
 refine HN.out.mono ?_
 rintro e_ W1 ⟨rfl, hb_⟩
 have HB1 := Lib.hid (below_step (HB0.out) hb_)
 have X31 := Lib.hid (blk_below (X30.out) hb_)
 have X51 := Lib.hid (blk_below (X50.out) hb_)
 clear hb_
 go_wp2_with fail
 go_ret
 exact ⟨rfl, HB1.out⟩
set_option maxRecDepth 100000 in
set_option maxHeartbeats 8000000 in
theorem check_17 (p : Nat) (At : Option Addr) (ct : Nat) (ns : List S101) (root : Int) (ol : List Int) (q : Int) (h0 : 0 ≤ q) (h1 : q < ns.length) (hk : kdOf ns q = 17) (hKI : KidsIn ns) (w : World) (hS : Sc p At ct ns root ol w) :
  Calls Try.prog 52 #[.pointer (some ⟨p, 0, none⟩), .int .i64 q] w fun e w' => e = .returned (.int .i64 (namedF ns ol q (kindF ns ol q (nmOf ns q) == 3 && allF ns ol 1 (rd_T101 ns q).f4))) ∧ Below w.heap.size w w' := by
 have hmf : ∀ (fn : Fn) (first cap : Array Value) (w : World), (Instr.makeFunc fn first cap).run Try.prog w = .ok (.func fn first cap) w := fun _ _ _ _ => rfl
 have hkq := hKI (rd_T101 ns q) (rd24_mem ns q h0 h1)
 have hsz := KidsIn.size hS h0 h1
 have hbx : Below w.heap.size w (w.alloc (.cells #[.pointer (some ⟨p, 0, none⟩)] 102)) := below_alloc (Below.refl _ _) _
 obtain ⟨Wb, hWb⟩ : ∃ W_, W_ = w.alloc (.cells #[.pointer (some ⟨p, 0, none⟩)] 102) := ⟨_, rfl⟩
 rw [← hWb] at hbx
 obtain ⟨bo, g, r0, l, Lb, h⟩ := hS.below hbx
 have cp0 : Wb.cell? ⟨p, 0, none⟩ = some (.slice At ns.length ct) := (blk_cell h.hp 0).trans rfl
 have cb : Wb.cell? ⟨w.heap.size, 0, none⟩ = some (.pointer (some ⟨p, 0, none⟩)) := by rw [hWb]; exact (blk_cell (heap_alloc_new w _) 0).trans rfl
 obtain ⟨ad, A4, c4, eA, z0, z1, z2, z3, z4, l4, g4⟩ := at_T101 h.hC q h0 h1
 have e0 := eq_true h0
 have e1 := eq_true h1
 have hk0 : kdOf ns q = (rd_T101 ns q).f0 := rfl
 have ht0 : nmOf ns q = (rd_T101 ns q).f3.data.toList := rfl
 obtain ⟨x, hx⟩ : ∃ x, x = rd_T101 ns q := ⟨_, rfl⟩
 rw [← hx] at z0 z1 z2 z3 z4 l4 g4 hkq hsz hk0 ht0 ⊢
 obtain ⟨k, n, at_, tx, kl⟩ := x
 dsimp only at z0 z1 z2 z3 z4 l4 g4 hkq hsz hk0 ht0 ⊢
 rw [hk] at hk0
 subst hk0
 have x3 := heap_alloc_new w (.cells #[.pointer (some ⟨p, 0, none⟩)] 102)
 rw [← hWb] at x3
 have hb0 : Below w.heap.size w (Wb.alloc (.cells #[.int .i64 17, .int .i64 n, .int .i64 at_, .string tx, .slice A4 kl.length c4] 101)) := below_alloc hbx _
 have hbC : Below Wb.heap.size Wb (Wb.alloc (.cells #[.int .i64 17, .int .i64 n, .int .i64 at_, .string tx, .slice A4 kl.length c4] 101)) := below_alloc (Below.refl _ _) _
 replace x3 := blk_alloc x3 (.cells #[.int .i64 17, .int .i64 n, .int .i64 at_, .string tx, .slice A4 kl.length c4] 101)
 have x5 := heap_alloc_new Wb (.cells #[.int .i64 17, .int .i64 n, .int .i64 at_, .string tx, .slice A4 kl.length c4] 101)
 rw [show Wb.heap.size = w.heap.size + 1 from by rw [hWb]; simp] at x5
 have HCW := Lib.hid (fun (w' : World) (hb : Below (Wb.alloc (.cells #[.int .i64 17, .int .i64 n, .int .i64 at_, .string tx, .slice A4 kl.length c4] 101)).heap.size (Wb.alloc (.cells #[.int .i64 17, .int .i64 n, .int .i64 at_, .string tx, .slice A4 kl.length c4] 101)) w') => Kd.C_below (Kd.C_below g4 hbC) hb)
 obtain ⟨W0, hW0⟩ : ∃ W_, W_ = Wb.alloc (.cells #[.int .i64 17, .int .i64 n, .int .i64 at_, .string tx, .slice A4 kl.length c4] 101) := ⟨_, rfl⟩
 rw [← hW0] at hb0 x3 x5 HCW
 have HB0 := Lib.hid hb0
 have X30 := Lib.hid x3
 have X50 := Lib.hid x5
 have HW0 := Lib.hid hW0
 have HS := Lib.hid (fun (w' : World) (hb : Below w.heap.size w w') => hS.below hb)
 have HKQ := Lib.hid hkq
 have hkl := hkq.2
 have HSZ := Lib.hid hsz
 have HT0 := Lib.hid ht0
 have HKI := Lib.hid hKI
 cases eA
 clear h hb0 hbC x3 x5 hW0 hbx g4 hkq hsz hx hKI hk hS
 obtain ⟨R, hR⟩ : ∃ R, R = namedF ns ol q (kindF ns ol q (nmOf ns q) == 3 && allF ns ol 1 kl) := ⟨_, rfl⟩
 rw [← hR]
 have HN := Lib.hid (named_arr p (some ad) ct ns root ol q h0 h1 w.heap.size (w.heap.size + 1) (kindF ns ol q (nmOf ns q) == 3 && allF ns ol 1 kl) W0 (HS.out W0 HB0.out) (fun w' hb => tarr_calls w.heap.size (w.heap.size + 1) p (some ad) ct ns root ol _ A4 c4 kl HKQ.out.1 HKQ.out.2 w' (HS.out w' (below_step HB0.out hb)) (HCW.out w' hb) l4 ((blk_cell (blk_below X30.out hb) 0).trans rfl) ((blk_cell (blk_below X50.out hb) 4).trans rfl)))
 rw [← hR] at HN
 clear hR
 subst hWb
 go_enter Try.func52, Try.ntmps52
 go_wp2_with fail
 rw [← HW0.out]
 clear z0 z1 z2 z3 z4 cp0 cb e0 e1
 refine HN.out.mono ?_
 rintro e_ W1 ⟨rfl, hb_⟩
 have HB1 := Lib.hid (below_step (HB0.out) hb_)
 have X31 := Lib.hid (blk_below (X30.out) hb_)
 have X51 := Lib.hid (blk_below (X50.out) hb_)
 clear hb_
 go_wp2_with fail
 go_ret
 exact ⟨rfl, HB1.out⟩
set_option maxRecDepth 100000 in
set_option maxHeartbeats 8000000 in
theorem check_24 (p : Nat) (At : Option Addr) (ct : Nat) (ns : List S101) (root : Int) (ol : List Int) (q : Int) (h0 : 0 ≤ q) (h1 : q < ns.length) (hk : kdOf ns q = 24) (hKI : KidsIn ns) (w : World) (hS : Sc p At ct ns root ol w) :
  Calls Try.prog 52 #[.pointer (some ⟨p, 0, none⟩), .int .i64 q] w fun e w' => e = .returned (.int .i64 (namedF ns ol q (kindF ns ol q (nmOf ns q) == 3))) ∧ Below w.heap.size w w' := by
 have hmf : ∀ (fn : Fn) (first cap : Array Value) (w : World), (Instr.makeFunc fn first cap).run Try.prog w = .ok (.func fn first cap) w := fun _ _ _ _ => rfl
 have hkq := hKI (rd_T101 ns q) (rd24_mem ns q h0 h1)
 have hsz := KidsIn.size hS h0 h1
 have hbx : Below w.heap.size w (w.alloc (.cells #[.pointer (some ⟨p, 0, none⟩)] 102)) := below_alloc (Below.refl _ _) _
 obtain ⟨Wb, hWb⟩ : ∃ W_, W_ = w.alloc (.cells #[.pointer (some ⟨p, 0, none⟩)] 102) := ⟨_, rfl⟩
 rw [← hWb] at hbx
 obtain ⟨bo, g, r0, l, Lb, h⟩ := hS.below hbx
 have cp0 : Wb.cell? ⟨p, 0, none⟩ = some (.slice At ns.length ct) := (blk_cell h.hp 0).trans rfl
 have cb : Wb.cell? ⟨w.heap.size, 0, none⟩ = some (.pointer (some ⟨p, 0, none⟩)) := by rw [hWb]; exact (blk_cell (heap_alloc_new w _) 0).trans rfl
 obtain ⟨ad, A4, c4, eA, z0, z1, z2, z3, z4, l4, g4⟩ := at_T101 h.hC q h0 h1
 have e0 := eq_true h0
 have e1 := eq_true h1
 have hk0 : kdOf ns q = (rd_T101 ns q).f0 := rfl
 have ht0 : nmOf ns q = (rd_T101 ns q).f3.data.toList := rfl
 obtain ⟨x, hx⟩ : ∃ x, x = rd_T101 ns q := ⟨_, rfl⟩
 rw [← hx] at z0 z1 z2 z3 z4 l4 g4 hkq hsz hk0 ht0
 obtain ⟨k, n, at_, tx, kl⟩ := x
 dsimp only at z0 z1 z2 z3 z4 l4 g4 hkq hsz hk0 ht0
 rw [hk] at hk0
 subst hk0
 have x3 := heap_alloc_new w (.cells #[.pointer (some ⟨p, 0, none⟩)] 102)
 rw [← hWb] at x3
 have hb0 : Below w.heap.size w (Wb.alloc (.cells #[.int .i64 24, .int .i64 n, .int .i64 at_, .string tx, .slice A4 kl.length c4] 101)) := below_alloc hbx _
 have hbC : Below Wb.heap.size Wb (Wb.alloc (.cells #[.int .i64 24, .int .i64 n, .int .i64 at_, .string tx, .slice A4 kl.length c4] 101)) := below_alloc (Below.refl _ _) _
 replace x3 := blk_alloc x3 (.cells #[.int .i64 24, .int .i64 n, .int .i64 at_, .string tx, .slice A4 kl.length c4] 101)
 have x5 := heap_alloc_new Wb (.cells #[.int .i64 24, .int .i64 n, .int .i64 at_, .string tx, .slice A4 kl.length c4] 101)
 rw [show Wb.heap.size = w.heap.size + 1 from by rw [hWb]; simp] at x5
 have HCW := Lib.hid (fun (w' : World) (hb : Below (Wb.alloc (.cells #[.int .i64 24, .int .i64 n, .int .i64 at_, .string tx, .slice A4 kl.length c4] 101)).heap.size (Wb.alloc (.cells #[.int .i64 24, .int .i64 n, .int .i64 at_, .string tx, .slice A4 kl.length c4] 101)) w') => Kd.C_below (Kd.C_below g4 hbC) hb)
 obtain ⟨W0, hW0⟩ : ∃ W_, W_ = Wb.alloc (.cells #[.int .i64 24, .int .i64 n, .int .i64 at_, .string tx, .slice A4 kl.length c4] 101) := ⟨_, rfl⟩
 rw [← hW0] at hb0 x3 x5 HCW
 have HB0 := Lib.hid hb0
 have X30 := Lib.hid x3
 have X50 := Lib.hid x5
 have HW0 := Lib.hid hW0
 have HS := Lib.hid (fun (w' : World) (hb : Below w.heap.size w w') => hS.below hb)
 have HKQ := Lib.hid hkq
 have hkl := hkq.2
 have HSZ := Lib.hid hsz
 have HT0 := Lib.hid ht0
 have HKI := Lib.hid hKI
 cases eA
 clear h hb0 hbC x3 x5 hW0 hbx g4 hkq hsz hx hKI hk hS
 obtain ⟨R, hR⟩ : ∃ R, R = namedF ns ol q (kindF ns ol q (nmOf ns q) == 3) := ⟨_, rfl⟩
 rw [← hR]
 have HN := Lib.hid (fun (b : Nat) (w' : World) (hb : Below w.heap.size w w') (hc : w'.heap[b]? = some (.cells #[.int .i64 3] 3 (0, 0))) => named_is p (some ad) ct ns root ol q h0 h1 b (kindF ns ol q (nmOf ns q) == 3) w' (HS.out w' hb) (fun w2 hb2 => tis_calls 3 _ b w2 ((blk_cell (blk_below hc hb2) 0).trans rfl)))
 rw [← hR] at HN
 clear hR
 subst hWb
 go_enter Try.func52, Try.ntmps52
 go_wp2_with fail
 rw [← HW0.out]
 clear z0 z1 z2 z3 z4 cp0 cb e0 e1
 have c30 : W0.cell? ⟨w.heap.size, 0, none⟩ = some (.pointer (some ⟨p, 0, none⟩)) := (blk_cell X30.out 0).trans rfl
 refine start_ (n := 6) (S := fun w' => w'.cell? ⟨w.heap.size, 0, none⟩ = some (.pointer (some ⟨p, 0, none⟩))) (ds := []) #[false, false, false, false, false, false] (by kernel_rfl) rfl rfl (cel_drew c30) (fun hHeld => ?_)
 refine pure_ (i := 1) (N := some 44) (v := ?_) (a' := ?_) #[false, true, false, false, false, false] rfl rfl (by kernel_rfl) (fun _ _ _ h => h) (Or.inl ⟨by rfl, ?_⟩) ?_ ?_
 rotate_left
 ·intro w'
  go_simp
  with_reducible rfl
 rotate_left
 ·simp only [Act.put, List.setIfInBounds_toArray, List.set_cons_zero, List.set_cons_succ, i64_w, i32_w]
  rfl
 refine pure_ (i := 2) (N := some 45) (v := ?_) (a' := ?_) #[false, true, true, false, false, false] rfl rfl (by kernel_rfl) (fun _ _ _ h => h) (Or.inl ⟨by rfl, ?_⟩) ?_ ?_
 rotate_left
 ·intro w'
  go_simp
  with_reducible rfl
 rotate_left
 ·simp only [Act.put, List.setIfInBounds_toArray, List.set_cons_zero, List.set_cons_succ, i64_w, i32_w]
  rfl
 refine take_ (i := 0) (N := some 43) (v := ?_) (a' := ?_) #[true, true, true, false, false, false] rfl rfl (by kernel_rfl) (fun _ _ _ h => h) (Or.inl ⟨by rfl, ?_⟩) hHeld ?_ ?_
 rotate_left
 ·intro w' s0
  go_simp
  with_reducible rfl
 rotate_left
 ·simp only [Act.put, List.setIfInBounds_toArray, List.set_cons_zero, List.set_cons_succ, i64_w, i32_w]
  rfl
 refine one_ (i := 3) (N := some 46) #[true, true, true, true, false, false] rfl rfl (by kernel_rfl) (by decide) (fun K hK => ?_)
 refine goesV_ Try.func73 (by kernel_rfl) rfl #[.int .i64 3] (by rfl) rfl rfl (by rfl) (by simp only [List.map_toArray, List.map_cons, List.map_nil]; rfl) ?_
 with_reducible refine (tis_new 3 _).mono ?_
 rintro e_ w_ ⟨rfl, rfl⟩
 refine ⟨_, rfl, ?_⟩
 have hb_ : Below W0.drew.heap.size W0.drew (W0.drew.alloc (.cells #[.int .i64 3] 3)) := below_alloc (Below.refl _ _) _
 have xc_ := blk_new W0.drew (.cells #[.int .i64 3] 3)
 obtain ⟨bc, hbc⟩ : ∃ bc, bc = W0.drew.heap.size := ⟨_, rfl⟩
 rw [← hbc] at xc_ ⊢
 obtain ⟨W1, hW1⟩ : ∃ W_, W_ = W0.drew.alloc (.cells #[.int .i64 3] 3) := ⟨_, rfl⟩
 rw [← hW1] at hb_ xc_ ⊢
 have XC := Lib.hid xc_
 clear xc_ hW1
 have HB1 := Lib.hid (below_step (below_drew (HB0.out)) hb_)
 have X31 := Lib.hid (blk_below (blk_drew (X30.out)) hb_)
 have X51 := Lib.hid (blk_below (blk_drew (X50.out)) hb_)
 clear hb_
 have c31 : W1.cell? ⟨w.heap.size, 0, none⟩ = some (.pointer (some ⟨p, 0, none⟩)) := (blk_cell X31.out 0).trans rfl
 refine hK.out _ _ (c31) (fun hHeld => ?_)
 clear hK K
 refine norm_ (a' := ?_) ?_ ?_
 rotate_left
 ·show Act.put _ (some 46) _ = _
  simp only [Act.put, List.setIfInBounds_toArray, List.set_cons_zero, List.set_cons_succ, i64_w, i32_w]
  rfl
 refine one_ (i := 4) (N := some 47) #[true, true, true, true, true, false] rfl rfl (by kernel_rfl) (by decide) (fun K hK => ?_)
 refine goes_ Try.func76 (by kernel_rfl) rfl #[.pointer (some ⟨p, 0, none⟩), .int .i64 q, .func (.func 74) #[] #[.pointer (some ⟨bc, 0, none⟩)]] (by rfl) rfl rfl (by simp only [List.map_toArray, List.map_cons, List.map_nil]; rfl) ?_
 with_reducible refine (HN.out bc _ HB1.out XC.out).mono ?_
 rintro e_ W2 ⟨rfl, hb_⟩
 refine ⟨_, rfl, ?_⟩
 have HB2 := Lib.hid (below_step (HB1.out) hb_)
 have X32 := Lib.hid (blk_below (X31.out) hb_)
 have X52 := Lib.hid (blk_below (X51.out) hb_)
 clear hb_
 have c32 : W2.cell? ⟨w.heap.size, 0, none⟩ = some (.pointer (some ⟨p, 0, none⟩)) := (blk_cell X32.out 0).trans rfl
 refine hK.out _ _ (c32) (fun hHeld => ?_)
 clear hK K
 refine norm_ (a' := ?_) ?_ ?_
 rotate_left
 ·show Act.put _ (some 47) _ = _
  simp only [Act.put, List.setIfInBounds_toArray, List.set_cons_zero, List.set_cons_succ, i64_w, i32_w]
  rfl
 refine pure_ (i := 5) (N := some 4) (v := ?_) (a' := ?_) #[true, true, true, true, true, true] rfl rfl (by kernel_rfl) (fun _ _ _ h => h) (Or.inl ⟨by rfl, ?_⟩) ?_ ?_
 rotate_left
 ·intro w'
  go_simp
  with_reducible rfl
 rotate_left
 ·simp only [Act.put, List.setIfInBounds_toArray, List.set_cons_zero, List.set_cons_succ, i64_w, i32_w]
  rfl
 refine done_ (by kernel_rfl) ?_
 go_wp2_with fail
 go_ret
 exact ⟨rfl, HB2.out⟩
set_option maxRecDepth 100000 in
set_option maxHeartbeats 8000000 in
theorem check_9 (p : Nat) (At : Option Addr) (ct : Nat) (ns : List S101) (root : Int) (ol : List Int) (q : Int) (h0 : 0 ≤ q) (h1 : q < ns.length) (hk : kdOf ns q = 9) (hKI : KidsIn ns) (w : World) (hS : Sc p At ct ns root ol w) :
  Calls Try.prog 52 #[.pointer (some ⟨p, 0, none⟩), .int .i64 q] w fun e w' => e = .returned (.int .i64 (namedF ns ol q (kindF ns ol q (nmOf ns q) == 1))) ∧ Below w.heap.size w w' := by
 have hmf : ∀ (fn : Fn) (first cap : Array Value) (w : World), (Instr.makeFunc fn first cap).run Try.prog w = .ok (.func fn first cap) w := fun _ _ _ _ => rfl
 have hkq := hKI (rd_T101 ns q) (rd24_mem ns q h0 h1)
 have hsz := KidsIn.size hS h0 h1
 have hbx : Below w.heap.size w (w.alloc (.cells #[.pointer (some ⟨p, 0, none⟩)] 102)) := below_alloc (Below.refl _ _) _
 obtain ⟨Wb, hWb⟩ : ∃ W_, W_ = w.alloc (.cells #[.pointer (some ⟨p, 0, none⟩)] 102) := ⟨_, rfl⟩
 rw [← hWb] at hbx
 obtain ⟨bo, g, r0, l, Lb, h⟩ := hS.below hbx
 have cp0 : Wb.cell? ⟨p, 0, none⟩ = some (.slice At ns.length ct) := (blk_cell h.hp 0).trans rfl
 have cb : Wb.cell? ⟨w.heap.size, 0, none⟩ = some (.pointer (some ⟨p, 0, none⟩)) := by rw [hWb]; exact (blk_cell (heap_alloc_new w _) 0).trans rfl
 obtain ⟨ad, A4, c4, eA, z0, z1, z2, z3, z4, l4, g4⟩ := at_T101 h.hC q h0 h1
 have e0 := eq_true h0
 have e1 := eq_true h1
 have hk0 : kdOf ns q = (rd_T101 ns q).f0 := rfl
 have ht0 : nmOf ns q = (rd_T101 ns q).f3.data.toList := rfl
 obtain ⟨x, hx⟩ : ∃ x, x = rd_T101 ns q := ⟨_, rfl⟩
 rw [← hx] at z0 z1 z2 z3 z4 l4 g4 hkq hsz hk0 ht0
 obtain ⟨k, n, at_, tx, kl⟩ := x
 dsimp only at z0 z1 z2 z3 z4 l4 g4 hkq hsz hk0 ht0
 rw [hk] at hk0
 subst hk0
 have x3 := heap_alloc_new w (.cells #[.pointer (some ⟨p, 0, none⟩)] 102)
 rw [← hWb] at x3
 have hb0 : Below w.heap.size w (Wb.alloc (.cells #[.int .i64 9, .int .i64 n, .int .i64 at_, .string tx, .slice A4 kl.length c4] 101)) := below_alloc hbx _
 have hbC : Below Wb.heap.size Wb (Wb.alloc (.cells #[.int .i64 9, .int .i64 n, .int .i64 at_, .string tx, .slice A4 kl.length c4] 101)) := below_alloc (Below.refl _ _) _
 replace x3 := blk_alloc x3 (.cells #[.int .i64 9, .int .i64 n, .int .i64 at_, .string tx, .slice A4 kl.length c4] 101)
 have x5 := heap_alloc_new Wb (.cells #[.int .i64 9, .int .i64 n, .int .i64 at_, .string tx, .slice A4 kl.length c4] 101)
 rw [show Wb.heap.size = w.heap.size + 1 from by rw [hWb]; simp] at x5
 have HCW := Lib.hid (fun (w' : World) (hb : Below (Wb.alloc (.cells #[.int .i64 9, .int .i64 n, .int .i64 at_, .string tx, .slice A4 kl.length c4] 101)).heap.size (Wb.alloc (.cells #[.int .i64 9, .int .i64 n, .int .i64 at_, .string tx, .slice A4 kl.length c4] 101)) w') => Kd.C_below (Kd.C_below g4 hbC) hb)
 obtain ⟨W0, hW0⟩ : ∃ W_, W_ = Wb.alloc (.cells #[.int .i64 9, .int .i64 n, .int .i64 at_, .string tx, .slice A4 kl.length c4] 101) := ⟨_, rfl⟩
 rw [← hW0] at hb0 x3 x5 HCW
 have HB0 := Lib.hid hb0
 have X30 := Lib.hid x3
 have X50 := Lib.hid x5
 have HW0 := Lib.hid hW0
 have HS := Lib.hid (fun (w' : World) (hb : Below w.heap.size w w') => hS.below hb)
 have HKQ := Lib.hid hkq
 have hkl := hkq.2
 have HSZ := Lib.hid hsz
 have HT0 := Lib.hid ht0
 have HKI := Lib.hid hKI
 cases eA
 clear h hb0 hbC x3 x5 hW0 hbx g4 hkq hsz hx hKI hk hS
 obtain ⟨R, hR⟩ : ∃ R, R = namedF ns ol q (kindF ns ol q (nmOf ns q) == 1) := ⟨_, rfl⟩
 rw [← hR]
 have HN := Lib.hid (fun (b : Nat) (w' : World) (hb : Below w.heap.size w w') (hc : w'.heap[b]? = some (.cells #[.int .i64 1] 3 (0, 0))) => named_is p (some ad) ct ns root ol q h0 h1 b (kindF ns ol q (nmOf ns q) == 1) w' (HS.out w' hb) (fun w2 hb2 => tis_calls 1 _ b w2 ((blk_cell (blk_below hc hb2) 0).trans rfl)))
 rw [← hR] at HN
 clear hR
 subst hWb
 go_enter Try.func52, Try.ntmps52
 go_wp2_with fail
 rw [← HW0.out]
 clear z0 z1 z2 z3 z4 cp0 cb e0 e1
 have c30 : W0.cell? ⟨w.heap.size, 0, none⟩ = some (.pointer (some ⟨p, 0, none⟩)) := (blk_cell X30.out 0).trans rfl
 refine start_ (n := 6) (S := fun w' => w'.cell? ⟨w.heap.size, 0, none⟩ = some (.pointer (some ⟨p, 0, none⟩))) (ds := []) #[false, false, false, false, false, false] (by kernel_rfl) rfl rfl (cel_drew c30) (fun hHeld => ?_)
 refine pure_ (i := 1) (N := some 52) (v := ?_) (a' := ?_) #[false, true, false, false, false, false] rfl rfl (by kernel_rfl) (fun _ _ _ h => h) (Or.inl ⟨by rfl, ?_⟩) ?_ ?_
 rotate_left
 ·intro w'
  go_simp
  with_reducible rfl
 rotate_left
 ·simp only [Act.put, List.setIfInBounds_toArray, List.set_cons_zero, List.set_cons_succ, i64_w, i32_w]
  rfl
 refine pure_ (i := 2) (N := some 53) (v := ?_) (a' := ?_) #[false, true, true, false, false, false] rfl rfl (by kernel_rfl) (fun _ _ _ h => h) (Or.inl ⟨by rfl, ?_⟩) ?_ ?_
 rotate_left
 ·intro w'
  go_simp
  with_reducible rfl
 rotate_left
 ·simp only [Act.put, List.setIfInBounds_toArray, List.set_cons_zero, List.set_cons_succ, i64_w, i32_w]
  rfl
 refine take_ (i := 0) (N := some 51) (v := ?_) (a' := ?_) #[true, true, true, false, false, false] rfl rfl (by kernel_rfl) (fun _ _ _ h => h) (Or.inl ⟨by rfl, ?_⟩) hHeld ?_ ?_
 rotate_left
 ·intro w' s0
  go_simp
  with_reducible rfl
 rotate_left
 ·simp only [Act.put, List.setIfInBounds_toArray, List.set_cons_zero, List.set_cons_succ, i64_w, i32_w]
  rfl
 refine one_ (i := 3) (N := some 54) #[true, true, true, true, false, false] rfl rfl (by kernel_rfl) (by decide) (fun K hK => ?_)
 refine goesV_ Try.func73 (by kernel_rfl) rfl #[.int .i64 1] (by rfl) rfl rfl (by rfl) (by simp only [List.map_toArray, List.map_cons, List.map_nil]; rfl) ?_
 with_reducible refine (tis_new 1 _).mono ?_
 rintro e_ w_ ⟨rfl, rfl⟩
 refine ⟨_, rfl, ?_⟩
 have hb_ : Below W0.drew.heap.size W0.drew (W0.drew.alloc (.cells #[.int .i64 1] 3)) := below_alloc (Below.refl _ _) _
 have xc_ := blk_new W0.drew (.cells #[.int .i64 1] 3)
 obtain ⟨bc, hbc⟩ : ∃ bc, bc = W0.drew.heap.size := ⟨_, rfl⟩
 rw [← hbc] at xc_ ⊢
 obtain ⟨W1, hW1⟩ : ∃ W_, W_ = W0.drew.alloc (.cells #[.int .i64 1] 3) := ⟨_, rfl⟩
 rw [← hW1] at hb_ xc_ ⊢
 have XC := Lib.hid xc_
 clear xc_ hW1
 have HB1 := Lib.hid (below_step (below_drew (HB0.out)) hb_)
 have X31 := Lib.hid (blk_below (blk_drew (X30.out)) hb_)
 have X51 := Lib.hid (blk_below (blk_drew (X50.out)) hb_)
 clear hb_
 have c31 : W1.cell? ⟨w.heap.size, 0, none⟩ = some (.pointer (some ⟨p, 0, none⟩)) := (blk_cell X31.out 0).trans rfl
 refine hK.out _ _ (c31) (fun hHeld => ?_)
 clear hK K
 refine norm_ (a' := ?_) ?_ ?_
 rotate_left
 ·show Act.put _ (some 54) _ = _
  simp only [Act.put, List.setIfInBounds_toArray, List.set_cons_zero, List.set_cons_succ, i64_w, i32_w]
  rfl
 refine one_ (i := 4) (N := some 55) #[true, true, true, true, true, false] rfl rfl (by kernel_rfl) (by decide) (fun K hK => ?_)
 refine goes_ Try.func76 (by kernel_rfl) rfl #[.pointer (some ⟨p, 0, none⟩), .int .i64 q, .func (.func 74) #[] #[.pointer (some ⟨bc, 0, none⟩)]] (by rfl) rfl rfl (by simp only [List.map_toArray, List.map_cons, List.map_nil]; rfl) ?_
 with_reducible refine (HN.out bc _ HB1.out XC.out).mono ?_
 rintro e_ W2 ⟨rfl, hb_⟩
 refine ⟨_, rfl, ?_⟩
 have HB2 := Lib.hid (below_step (HB1.out) hb_)
 have X32 := Lib.hid (blk_below (X31.out) hb_)
 have X52 := Lib.hid (blk_below (X51.out) hb_)
 clear hb_
 have c32 : W2.cell? ⟨w.heap.size, 0, none⟩ = some (.pointer (some ⟨p, 0, none⟩)) := (blk_cell X32.out 0).trans rfl
 refine hK.out _ _ (c32) (fun hHeld => ?_)
 clear hK K
 refine norm_ (a' := ?_) ?_ ?_
 rotate_left
 ·show Act.put _ (some 55) _ = _
  simp only [Act.put, List.setIfInBounds_toArray, List.set_cons_zero, List.set_cons_succ, i64_w, i32_w]
  rfl
 refine pure_ (i := 5) (N := some 4) (v := ?_) (a' := ?_) #[true, true, true, true, true, true] rfl rfl (by kernel_rfl) (fun _ _ _ h => h) (Or.inl ⟨by rfl, ?_⟩) ?_ ?_
 rotate_left
 ·intro w'
  go_simp
  with_reducible rfl
 rotate_left
 ·simp only [Act.put, List.setIfInBounds_toArray, List.set_cons_zero, List.set_cons_succ, i64_w, i32_w]
  rfl
 refine done_ (by kernel_rfl) ?_
 go_wp2_with fail
 go_ret
 exact ⟨rfl, HB2.out⟩
set_option maxRecDepth 100000 in
set_option maxHeartbeats 8000000 in
theorem check_16 (p : Nat) (At : Option Addr) (ct : Nat) (ns : List S101) (root : Int) (ol : List Int) (q : Int) (h0 : 0 ≤ q) (h1 : q < ns.length) (hk : kdOf ns q = 16) (hKI : KidsIn ns) (w : World) (hS : Sc p At ct ns root ol w) :
  Calls Try.prog 52 #[.pointer (some ⟨p, 0, none⟩), .int .i64 q] w fun e w' => e = .returned (.int .i64 (namedF ns ol q (kindF ns ol q (nmOf ns q) == 1))) ∧ Below w.heap.size w w' := by
 have hmf : ∀ (fn : Fn) (first cap : Array Value) (w : World), (Instr.makeFunc fn first cap).run Try.prog w = .ok (.func fn first cap) w := fun _ _ _ _ => rfl
 have hkq := hKI (rd_T101 ns q) (rd24_mem ns q h0 h1)
 have hsz := KidsIn.size hS h0 h1
 have hbx : Below w.heap.size w (w.alloc (.cells #[.pointer (some ⟨p, 0, none⟩)] 102)) := below_alloc (Below.refl _ _) _
 obtain ⟨Wb, hWb⟩ : ∃ W_, W_ = w.alloc (.cells #[.pointer (some ⟨p, 0, none⟩)] 102) := ⟨_, rfl⟩
 rw [← hWb] at hbx
 obtain ⟨bo, g, r0, l, Lb, h⟩ := hS.below hbx
 have cp0 : Wb.cell? ⟨p, 0, none⟩ = some (.slice At ns.length ct) := (blk_cell h.hp 0).trans rfl
 have cb : Wb.cell? ⟨w.heap.size, 0, none⟩ = some (.pointer (some ⟨p, 0, none⟩)) := by rw [hWb]; exact (blk_cell (heap_alloc_new w _) 0).trans rfl
 obtain ⟨ad, A4, c4, eA, z0, z1, z2, z3, z4, l4, g4⟩ := at_T101 h.hC q h0 h1
 have e0 := eq_true h0
 have e1 := eq_true h1
 have hk0 : kdOf ns q = (rd_T101 ns q).f0 := rfl
 have ht0 : nmOf ns q = (rd_T101 ns q).f3.data.toList := rfl
 obtain ⟨x, hx⟩ : ∃ x, x = rd_T101 ns q := ⟨_, rfl⟩
 rw [← hx] at z0 z1 z2 z3 z4 l4 g4 hkq hsz hk0 ht0
 obtain ⟨k, n, at_, tx, kl⟩ := x
 dsimp only at z0 z1 z2 z3 z4 l4 g4 hkq hsz hk0 ht0
 rw [hk] at hk0
 subst hk0
 have x3 := heap_alloc_new w (.cells #[.pointer (some ⟨p, 0, none⟩)] 102)
 rw [← hWb] at x3
 have hb0 : Below w.heap.size w (Wb.alloc (.cells #[.int .i64 16, .int .i64 n, .int .i64 at_, .string tx, .slice A4 kl.length c4] 101)) := below_alloc hbx _
 have hbC : Below Wb.heap.size Wb (Wb.alloc (.cells #[.int .i64 16, .int .i64 n, .int .i64 at_, .string tx, .slice A4 kl.length c4] 101)) := below_alloc (Below.refl _ _) _
 replace x3 := blk_alloc x3 (.cells #[.int .i64 16, .int .i64 n, .int .i64 at_, .string tx, .slice A4 kl.length c4] 101)
 have x5 := heap_alloc_new Wb (.cells #[.int .i64 16, .int .i64 n, .int .i64 at_, .string tx, .slice A4 kl.length c4] 101)
 rw [show Wb.heap.size = w.heap.size + 1 from by rw [hWb]; simp] at x5
 have HCW := Lib.hid (fun (w' : World) (hb : Below (Wb.alloc (.cells #[.int .i64 16, .int .i64 n, .int .i64 at_, .string tx, .slice A4 kl.length c4] 101)).heap.size (Wb.alloc (.cells #[.int .i64 16, .int .i64 n, .int .i64 at_, .string tx, .slice A4 kl.length c4] 101)) w') => Kd.C_below (Kd.C_below g4 hbC) hb)
 obtain ⟨W0, hW0⟩ : ∃ W_, W_ = Wb.alloc (.cells #[.int .i64 16, .int .i64 n, .int .i64 at_, .string tx, .slice A4 kl.length c4] 101) := ⟨_, rfl⟩
 rw [← hW0] at hb0 x3 x5 HCW
 have HB0 := Lib.hid hb0
 have X30 := Lib.hid x3
 have X50 := Lib.hid x5
 have HW0 := Lib.hid hW0
 have HS := Lib.hid (fun (w' : World) (hb : Below w.heap.size w w') => hS.below hb)
 have HKQ := Lib.hid hkq
 have hkl := hkq.2
 have HSZ := Lib.hid hsz
 have HT0 := Lib.hid ht0
 have HKI := Lib.hid hKI
 cases eA
 clear h hb0 hbC x3 x5 hW0 hbx g4 hkq hsz hx hKI hk hS
 obtain ⟨R, hR⟩ : ∃ R, R = namedF ns ol q (kindF ns ol q (nmOf ns q) == 1) := ⟨_, rfl⟩
 rw [← hR]
 have HN := Lib.hid (fun (b : Nat) (w' : World) (hb : Below w.heap.size w w') (hc : w'.heap[b]? = some (.cells #[.int .i64 1] 3 (0, 0))) => named_is p (some ad) ct ns root ol q h0 h1 b (kindF ns ol q (nmOf ns q) == 1) w' (HS.out w' hb) (fun w2 hb2 => tis_calls 1 _ b w2 ((blk_cell (blk_below hc hb2) 0).trans rfl)))
 rw [← hR] at HN
 clear hR
 subst hWb
 go_enter Try.func52, Try.ntmps52
 go_wp2_with fail
 rw [← HW0.out]
 clear z0 z1 z2 z3 z4 cp0 cb e0 e1
 have c30 : W0.cell? ⟨w.heap.size, 0, none⟩ = some (.pointer (some ⟨p, 0, none⟩)) := (blk_cell X30.out 0).trans rfl
 refine start_ (n := 6) (S := fun w' => w'.cell? ⟨w.heap.size, 0, none⟩ = some (.pointer (some ⟨p, 0, none⟩))) (ds := []) #[false, false, false, false, false, false] (by kernel_rfl) rfl rfl (cel_drew c30) (fun hHeld => ?_)
 refine pure_ (i := 1) (N := some 52) (v := ?_) (a' := ?_) #[false, true, false, false, false, false] rfl rfl (by kernel_rfl) (fun _ _ _ h => h) (Or.inl ⟨by rfl, ?_⟩) ?_ ?_
 rotate_left
 ·intro w'
  go_simp
  with_reducible rfl
 rotate_left
 ·simp only [Act.put, List.setIfInBounds_toArray, List.set_cons_zero, List.set_cons_succ, i64_w, i32_w]
  rfl
 refine pure_ (i := 2) (N := some 53) (v := ?_) (a' := ?_) #[false, true, true, false, false, false] rfl rfl (by kernel_rfl) (fun _ _ _ h => h) (Or.inl ⟨by rfl, ?_⟩) ?_ ?_
 rotate_left
 ·intro w'
  go_simp
  with_reducible rfl
 rotate_left
 ·simp only [Act.put, List.setIfInBounds_toArray, List.set_cons_zero, List.set_cons_succ, i64_w, i32_w]
  rfl
 refine take_ (i := 0) (N := some 51) (v := ?_) (a' := ?_) #[true, true, true, false, false, false] rfl rfl (by kernel_rfl) (fun _ _ _ h => h) (Or.inl ⟨by rfl, ?_⟩) hHeld ?_ ?_
 rotate_left
 ·intro w' s0
  go_simp
  with_reducible rfl
 rotate_left
 ·simp only [Act.put, List.setIfInBounds_toArray, List.set_cons_zero, List.set_cons_succ, i64_w, i32_w]
  rfl
 refine one_ (i := 3) (N := some 54) #[true, true, true, true, false, false] rfl rfl (by kernel_rfl) (by decide) (fun K hK => ?_)
 refine goesV_ Try.func73 (by kernel_rfl) rfl #[.int .i64 1] (by rfl) rfl rfl (by rfl) (by simp only [List.map_toArray, List.map_cons, List.map_nil]; rfl) ?_
 with_reducible refine (tis_new 1 _).mono ?_
 rintro e_ w_ ⟨rfl, rfl⟩
 refine ⟨_, rfl, ?_⟩
 have hb_ : Below W0.drew.heap.size W0.drew (W0.drew.alloc (.cells #[.int .i64 1] 3)) := below_alloc (Below.refl _ _) _
 have xc_ := blk_new W0.drew (.cells #[.int .i64 1] 3)
 obtain ⟨bc, hbc⟩ : ∃ bc, bc = W0.drew.heap.size := ⟨_, rfl⟩
 rw [← hbc] at xc_ ⊢
 obtain ⟨W1, hW1⟩ : ∃ W_, W_ = W0.drew.alloc (.cells #[.int .i64 1] 3) := ⟨_, rfl⟩
 rw [← hW1] at hb_ xc_ ⊢
 have XC := Lib.hid xc_
 clear xc_ hW1
 have HB1 := Lib.hid (below_step (below_drew (HB0.out)) hb_)
 have X31 := Lib.hid (blk_below (blk_drew (X30.out)) hb_)
 have X51 := Lib.hid (blk_below (blk_drew (X50.out)) hb_)
 clear hb_
 have c31 : W1.cell? ⟨w.heap.size, 0, none⟩ = some (.pointer (some ⟨p, 0, none⟩)) := (blk_cell X31.out 0).trans rfl
 refine hK.out _ _ (c31) (fun hHeld => ?_)
 clear hK K
 refine norm_ (a' := ?_) ?_ ?_
 rotate_left
 ·show Act.put _ (some 54) _ = _
  simp only [Act.put, List.setIfInBounds_toArray, List.set_cons_zero, List.set_cons_succ, i64_w, i32_w]
  rfl
 refine one_ (i := 4) (N := some 55) #[true, true, true, true, true, false] rfl rfl (by kernel_rfl) (by decide) (fun K hK => ?_)
 refine goes_ Try.func76 (by kernel_rfl) rfl #[.pointer (some ⟨p, 0, none⟩), .int .i64 q, .func (.func 74) #[] #[.pointer (some ⟨bc, 0, none⟩)]] (by rfl) rfl rfl (by simp only [List.map_toArray, List.map_cons, List.map_nil]; rfl) ?_
 with_reducible refine (HN.out bc _ HB1.out XC.out).mono ?_
 rintro e_ W2 ⟨rfl, hb_⟩
 refine ⟨_, rfl, ?_⟩
 have HB2 := Lib.hid (below_step (HB1.out) hb_)
 have X32 := Lib.hid (blk_below (X31.out) hb_)
 have X52 := Lib.hid (blk_below (X51.out) hb_)
 clear hb_
 have c32 : W2.cell? ⟨w.heap.size, 0, none⟩ = some (.pointer (some ⟨p, 0, none⟩)) := (blk_cell X32.out 0).trans rfl
 refine hK.out _ _ (c32) (fun hHeld => ?_)
 clear hK K
 refine norm_ (a' := ?_) ?_ ?_
 rotate_left
 ·show Act.put _ (some 55) _ = _
  simp only [Act.put, List.setIfInBounds_toArray, List.set_cons_zero, List.set_cons_succ, i64_w, i32_w]
  rfl
 refine pure_ (i := 5) (N := some 4) (v := ?_) (a' := ?_) #[true, true, true, true, true, true] rfl rfl (by kernel_rfl) (fun _ _ _ h => h) (Or.inl ⟨by rfl, ?_⟩) ?_ ?_
 rotate_left
 ·intro w'
  go_simp
  with_reducible rfl
 rotate_left
 ·simp only [Act.put, List.setIfInBounds_toArray, List.set_cons_zero, List.set_cons_succ, i64_w, i32_w]
  rfl
 refine done_ (by kernel_rfl) ?_
 go_wp2_with fail
 go_ret
 exact ⟨rfl, HB2.out⟩
set_option maxRecDepth 100000 in
set_option maxHeartbeats 8000000 in
theorem check_7 (p : Nat) (At : Option Addr) (ct : Nat) (ns : List S101) (root : Int) (ol : List Int) (q : Int) (h0 : 0 ≤ q) (h1 : q < ns.length) (hk : kdOf ns q = 7) (hKI : KidsIn ns) (hp : 0 < (rd_T101 ns q).f4.length) (w : World) (hS : Sc p At ct ns root ol w) :
  Calls Try.prog 52 #[.pointer (some ⟨p, 0, none⟩), .int .i64 q] w fun e w' => e = .returned (.int .i64 (namedF ns ol q (kindF ns ol q (nmOf ns q) == exprF ns ol (rd (rd_T101 ns q).f4 0)))) ∧ Below w.heap.size w w' := by
 have hmf : ∀ (fn : Fn) (first cap : Array Value) (w : World), (Instr.makeFunc fn first cap).run Try.prog w = .ok (.func fn first cap) w := fun _ _ _ _ => rfl
 have hkq := hKI (rd_T101 ns q) (rd24_mem ns q h0 h1)
 have hsz := KidsIn.size hS h0 h1
 have hbx : Below w.heap.size w (w.alloc (.cells #[.pointer (some ⟨p, 0, none⟩)] 102)) := below_alloc (Below.refl _ _) _
 obtain ⟨Wb, hWb⟩ : ∃ W_, W_ = w.alloc (.cells #[.pointer (some ⟨p, 0, none⟩)] 102) := ⟨_, rfl⟩
 rw [← hWb] at hbx
 obtain ⟨bo, g, r0, l, Lb, h⟩ := hS.below hbx
 have cp0 : Wb.cell? ⟨p, 0, none⟩ = some (.slice At ns.length ct) := (blk_cell h.hp 0).trans rfl
 have cb : Wb.cell? ⟨w.heap.size, 0, none⟩ = some (.pointer (some ⟨p, 0, none⟩)) := by rw [hWb]; exact (blk_cell (heap_alloc_new w _) 0).trans rfl
 obtain ⟨ad, A4, c4, eA, z0, z1, z2, z3, z4, l4, g4⟩ := at_T101 h.hC q h0 h1
 have e0 := eq_true h0
 have e1 := eq_true h1
 have hk0 : kdOf ns q = (rd_T101 ns q).f0 := rfl
 have ht0 : nmOf ns q = (rd_T101 ns q).f3.data.toList := rfl
 obtain ⟨x, hx⟩ : ∃ x, x = rd_T101 ns q := ⟨_, rfl⟩
 rw [← hx] at z0 z1 z2 z3 z4 l4 g4 hkq hsz hk0 ht0 hp ⊢
 obtain ⟨k, n, at_, tx, kl⟩ := x
 dsimp only at z0 z1 z2 z3 z4 l4 g4 hkq hsz hk0 ht0 hp ⊢
 rw [hk] at hk0
 subst hk0
 have x3 := heap_alloc_new w (.cells #[.pointer (some ⟨p, 0, none⟩)] 102)
 rw [← hWb] at x3
 have hb0 : Below w.heap.size w (Wb.alloc (.cells #[.int .i64 7, .int .i64 n, .int .i64 at_, .string tx, .slice A4 kl.length c4] 101)) := below_alloc hbx _
 have hbC : Below Wb.heap.size Wb (Wb.alloc (.cells #[.int .i64 7, .int .i64 n, .int .i64 at_, .string tx, .slice A4 kl.length c4] 101)) := below_alloc (Below.refl _ _) _
 replace x3 := blk_alloc x3 (.cells #[.int .i64 7, .int .i64 n, .int .i64 at_, .string tx, .slice A4 kl.length c4] 101)
 have x5 := heap_alloc_new Wb (.cells #[.int .i64 7, .int .i64 n, .int .i64 at_, .string tx, .slice A4 kl.length c4] 101)
 rw [show Wb.heap.size = w.heap.size + 1 from by rw [hWb]; simp] at x5
 have HCW := Lib.hid (fun (w' : World) (hb : Below (Wb.alloc (.cells #[.int .i64 7, .int .i64 n, .int .i64 at_, .string tx, .slice A4 kl.length c4] 101)).heap.size (Wb.alloc (.cells #[.int .i64 7, .int .i64 n, .int .i64 at_, .string tx, .slice A4 kl.length c4] 101)) w') => Kd.C_below (Kd.C_below g4 hbC) hb)
 obtain ⟨W0, hW0⟩ : ∃ W_, W_ = Wb.alloc (.cells #[.int .i64 7, .int .i64 n, .int .i64 at_, .string tx, .slice A4 kl.length c4] 101) := ⟨_, rfl⟩
 rw [← hW0] at hb0 x3 x5 HCW
 have HB0 := Lib.hid hb0
 have X30 := Lib.hid x3
 have X50 := Lib.hid x5
 have HW0 := Lib.hid hW0
 have HS := Lib.hid (fun (w' : World) (hb : Below w.heap.size w w') => hS.below hb)
 have HKQ := Lib.hid hkq
 have hkl := hkq.2
 have HSZ := Lib.hid hsz
 have HT0 := Lib.hid ht0
 have HKI := Lib.hid hKI
 cases eA
 clear h hb0 hbC x3 x5 hW0 hbx g4 hkq hsz hx hKI hk hS
 obtain ⟨k0, hk0⟩ : ∃ k0, k0 = rd kl 0 := ⟨_, rfl⟩
 have hin : 0 ≤ k0 ∧ k0 < ns.length := by
  rw [hk0, show rd kl 0 = kl[0] from by simp [rd, hp]]
  exact HKQ.out.1 _ (List.getElem_mem hp)
 rw [← hk0]
 obtain ⟨adK, eK, y0⟩ := Kd.at_int (HCW.out W0 (Below.refl _ _)) 0 (Int.le_refl _) (by omega)
 rw [← hk0] at y0
 replace y0 : W0.cell? adK = some (.int .i64 k0) := y0
 cases eK
 have HE := Lib.hid (fun (w' : World) (hb : Below w.heap.size w w') => expr_is p (some ad) ct ns root ol k0 hin.1 hin.2 w' (HS.out w' hb))
 obtain ⟨te, hte⟩ : ∃ te, te = exprF ns ol k0 := ⟨_, rfl⟩
 rw [← hte] at HE ⊢
 obtain ⟨R, hR⟩ : ∃ R, R = namedF ns ol q (kindF ns ol q (nmOf ns q) == te) := ⟨_, rfl⟩
 rw [← hR]
 have HN := Lib.hid (fun (b : Nat) (w' : World) (hb : Below w.heap.size w w') (hc : w'.heap[b]? = some (.cells #[.int .i64 te] 3 (0, 0))) => named_is p (some ad) ct ns root ol q h0 h1 b (kindF ns ol q (nmOf ns q) == te) w' (HS.out w' hb) (fun w2 hb2 => tis_calls te _ b w2 ((blk_cell (blk_below hc hb2) 0).trans rfl)))
 rw [← hR] at HN
 have e3 : (0 : Int) < (kl.length : Int) := by omega
 clear hR hte hin hk0
 subst hWb
 go_enter Try.func52, Try.ntmps52
 go_wp2_with fail
 rw [← HW0.out]
 clear z0 z1 z2 z3 z4 cp0 cb e0 e1
 have c30 : W0.cell? ⟨w.heap.size, 0, none⟩ = some (.pointer (some ⟨p, 0, none⟩)) := (blk_cell X30.out 0).trans rfl
 have c540 : W0.cell? ⟨w.heap.size + 1, 4, none⟩ = some (.slice (some adK) kl.length c4) := (blk_cell X50.out 4).trans rfl
 refine start_ (n := 12) (S := fun w' => w'.cell? ⟨w.heap.size, 0, none⟩ = some (.pointer (some ⟨p, 0, none⟩)) ∧ w'.cell? ⟨w.heap.size + 1, 4, none⟩ = some (.slice (some adK) kl.length c4) ∧ w'.cell? adK = some (.int .i64 k0)) (ds := []) #[false, false, false, false, false, false, false, false, false, false, false, false] (by kernel_rfl) rfl rfl ⟨cel_drew c30, cel_drew c540, cel_drew y0⟩ (fun hHeld => ?_)
 refine pure_ (i := 1) (N := some 59) (v := ?_) (a' := ?_) #[false, true, false, false, false, false, false, false, false, false, false, false] rfl rfl (by kernel_rfl) (fun _ _ _ h => h) (Or.inl ⟨by rfl, ?_⟩) ?_ ?_
 rotate_left
 ·intro w'
  go_simp
  with_reducible rfl
 rotate_left
 ·simp only [Act.put, List.setIfInBounds_toArray, List.set_cons_zero, List.set_cons_succ, i64_w, i32_w]
  rfl
 refine pure_ (i := 2) (N := some 60) (v := ?_) (a' := ?_) #[false, true, true, false, false, false, false, false, false, false, false, false] rfl rfl (by kernel_rfl) (fun _ _ _ h => h) (Or.inl ⟨by rfl, ?_⟩) ?_ ?_
 rotate_left
 ·intro w'
  go_simp
  with_reducible rfl
 rotate_left
 ·simp only [Act.put, List.setIfInBounds_toArray, List.set_cons_zero, List.set_cons_succ, i64_w, i32_w]
  rfl
 refine pure_ (i := 4) (N := some 62) (v := ?_) (a' := ?_) #[false, true, true, false, true, false, false, false, false, false, false, false] rfl rfl (by kernel_rfl) (fun _ _ _ h => h) (Or.inl ⟨by rfl, ?_⟩) ?_ ?_
 rotate_left
 ·intro w'
  go_simp
  with_reducible rfl
 rotate_left
 ·simp only [Act.put, List.setIfInBounds_toArray, List.set_cons_zero, List.set_cons_succ, i64_w, i32_w]
  rfl
 refine take_ (i := 0) (N := some 58) (v := ?_) (a' := ?_) #[true, true, true, false, true, false, false, false, false, false, false, false] rfl rfl (by kernel_rfl) (fun _ _ _ h => h) (Or.inl ⟨by rfl, ?_⟩) hHeld ?_ ?_
 rotate_left
 ·rintro w' ⟨s0, s1, s2⟩
  go_simp
  with_reducible rfl
 rotate_left
 ·simp only [Act.put, List.setIfInBounds_toArray, List.set_cons_zero, List.set_cons_succ, i64_w, i32_w]
  rfl
 refine take_ (i := 3) (N := some 61) (v := ?_) (a' := ?_) #[true, true, true, true, true, false, false, false, false, false, false, false] rfl rfl (by kernel_rfl) (fun _ _ _ h => h) (Or.inl ⟨by rfl, ?_⟩) hHeld ?_ ?_
 rotate_left
 ·rintro w' ⟨s0, s1, s2⟩
  go_simp
  with_reducible rfl
 rotate_left
 ·simp only [Act.put, List.setIfInBounds_toArray, List.set_cons_zero, List.set_cons_succ, i64_w, i32_w]
  rfl
 refine take_ (i := 5) (N := some 63) (v := ?_) (a' := ?_) #[true, true, true, true, true, true, false, false, false, false, false, false] rfl rfl (by kernel_rfl) (fun _ _ _ h => h) (Or.inl ⟨by rfl, ?_⟩) hHeld ?_ ?_
 rotate_left
 ·rintro w' ⟨s0, s1, s2⟩
  go_simp
  with_reducible rfl
 rotate_left
 ·simp only [Act.put, List.setIfInBounds_toArray, List.set_cons_zero, List.set_cons_succ, i64_w, i32_w]
  rfl
 refine pure_ (i := 6) (N := some 64) (v := ?_) (a' := ?_) #[true, true, true, true, true, true, true, false, false, false, false, false] rfl rfl (by kernel_rfl) (fun _ _ _ h => h) (Or.inl ⟨by rfl, ?_⟩) ?_ ?_
 rotate_left
 ·intro w'
  go_simp
  with_reducible rfl
 rotate_left
 ·simp only [Act.put, List.setIfInBounds_toArray, List.set_cons_zero, List.set_cons_succ, i64_w, i32_w]
  rfl
 refine take_ (i := 7) (N := some 65) (v := ?_) (a' := ?_) #[true, true, true, true, true, true, true, true, false, false, false, false] rfl rfl (by kernel_rfl) (fun _ _ _ h => h) (Or.inl ⟨by rfl, ?_⟩) hHeld ?_ ?_
 rotate_left
 ·rintro w' ⟨s0, s1, s2⟩
  go_simp
  with_reducible rfl
 rotate_left
 ·simp only [Act.put, List.setIfInBounds_toArray, List.set_cons_zero, List.set_cons_succ, i64_w, i32_w]
  rfl
 refine one_ (i := 8) (N := some 66) #[true, true, true, true, true, true, true, true, true, false, false, false] rfl rfl (by kernel_rfl) (by decide) (fun K hK => ?_)
 refine goes_ Try.func56 (by kernel_rfl) rfl #[.pointer (some ⟨p, 0, none⟩), .int .i64 k0] (by rfl) rfl rfl (by simp only [List.map_toArray, List.map_cons, List.map_nil]; rfl) ?_
 with_reducible refine (HE.out _ (below_drew HB0.out)).mono ?_
 rintro e_ W1 ⟨rfl, hb_⟩
 refine ⟨_, rfl, ?_⟩
 have y1 := pw_cell_below hb_ (cel_drew y0)
 have HB1 := Lib.hid (below_step (below_drew (HB0.out)) hb_)
 have X31 := Lib.hid (blk_below (blk_drew (X30.out)) hb_)
 have X51 := Lib.hid (blk_below (blk_drew (X50.out)) hb_)
 clear hb_
 have c31 : W1.cell? ⟨w.heap.size, 0, none⟩ = some (.pointer (some ⟨p, 0, none⟩)) := (blk_cell X31.out 0).trans rfl
 have c541 : W1.cell? ⟨w.heap.size + 1, 4, none⟩ = some (.slice (some adK) kl.length c4) := (blk_cell X51.out 4).trans rfl
 refine hK.out _ _ ⟨c31, c541, y1⟩ (fun hHeld => ?_)
 clear hK K
 refine norm_ (a' := ?_) ?_ ?_
 rotate_left
 ·show Act.put _ (some 66) _ = _
  simp only [Act.put, List.setIfInBounds_toArray, List.set_cons_zero, List.set_cons_succ, i64_w, i32_w]
  rfl
 refine one_ (i := 9) (N := some 67) #[true, true, true, true, true, true, true, true, true, true, false, false] rfl rfl (by kernel_rfl) (by decide) (fun K hK => ?_)
 refine goesV_ Try.func73 (by kernel_rfl) rfl #[.int .i64 te] (by rfl) rfl rfl (by rfl) (by simp only [List.map_toArray, List.map_cons, List.map_nil]; rfl) ?_
 with_reducible refine (tis_new te _).mono ?_
 rintro e_ w_ ⟨rfl, rfl⟩
 refine ⟨_, rfl, ?_⟩
 have hb_ : Below W1.heap.size W1 (W1.alloc (.cells #[.int .i64 te] 3)) := below_alloc (Below.refl _ _) _
 have xc_ := blk_new W1 (.cells #[.int .i64 te] 3)
 obtain ⟨bc, hbc⟩ : ∃ bc, bc = W1.heap.size := ⟨_, rfl⟩
 rw [← hbc] at xc_ ⊢
 obtain ⟨W2, hW2⟩ : ∃ W_, W_ = W1.alloc (.cells #[.int .i64 te] 3) := ⟨_, rfl⟩
 rw [← hW2] at hb_ xc_ ⊢
 have XC := Lib.hid xc_
 have y2 := pw_cell_below hb_ y1
 clear xc_ hW2
 have HB2 := Lib.hid (below_step (HB1.out) hb_)
 have X32 := Lib.hid (blk_below (X31.out) hb_)
 have X52 := Lib.hid (blk_below (X51.out) hb_)
 clear hb_
 have c32 : W2.cell? ⟨w.heap.size, 0, none⟩ = some (.pointer (some ⟨p, 0, none⟩)) := (blk_cell X32.out 0).trans rfl
 have c542 : W2.cell? ⟨w.heap.size + 1, 4, none⟩ = some (.slice (some adK) kl.length c4) := (blk_cell X52.out 4).trans rfl
 refine hK.out _ _ ⟨c32, c542, y2⟩ (fun hHeld => ?_)
 clear hK K
 refine norm_ (a' := ?_) ?_ ?_
 rotate_left
 ·show Act.put _ (some 67) _ = _
  simp only [Act.put, List.setIfInBounds_toArray, List.set_cons_zero, List.set_cons_succ, i64_w, i32_w]
  rfl
 refine one_ (i := 10) (N := some 68) #[true, true, true, true, true, true, true, true, true, true, true, false] rfl rfl (by kernel_rfl) (by decide) (fun K hK => ?_)
 refine goes_ Try.func76 (by kernel_rfl) rfl #[.pointer (some ⟨p, 0, none⟩), .int .i64 q, .func (.func 74) #[] #[.pointer (some ⟨bc, 0, none⟩)]] (by rfl) rfl rfl (by simp only [List.map_toArray, List.map_cons, List.map_nil]; rfl) ?_
 with_reducible refine (HN.out bc _ HB2.out XC.out).mono ?_
 rintro e_ W3 ⟨rfl, hb_⟩
 refine ⟨_, rfl, ?_⟩
 have y3 := pw_cell_below hb_ y2
 have HB3 := Lib.hid (below_step (HB2.out) hb_)
 have X33 := Lib.hid (blk_below (X32.out) hb_)
 have X53 := Lib.hid (blk_below (X52.out) hb_)
 clear hb_
 have c33 : W3.cell? ⟨w.heap.size, 0, none⟩ = some (.pointer (some ⟨p, 0, none⟩)) := (blk_cell X33.out 0).trans rfl
 have c543 : W3.cell? ⟨w.heap.size + 1, 4, none⟩ = some (.slice (some adK) kl.length c4) := (blk_cell X53.out 4).trans rfl
 refine hK.out _ _ ⟨c33, c543, y3⟩ (fun hHeld => ?_)
 clear hK K
 refine norm_ (a' := ?_) ?_ ?_
 rotate_left
 ·show Act.put _ (some 68) _ = _
  simp only [Act.put, List.setIfInBounds_toArray, List.set_cons_zero, List.set_cons_succ, i64_w, i32_w]
  rfl
 refine pure_ (i := 11) (N := some 4) (v := ?_) (a' := ?_) #[true, true, true, true, true, true, true, true, true, true, true, true] rfl rfl (by kernel_rfl) (fun _ _ _ h => h) (Or.inl ⟨by rfl, ?_⟩) ?_ ?_
 rotate_left
 ·intro w'
  go_simp
  with_reducible rfl
 rotate_left
 ·simp only [Act.put, List.setIfInBounds_toArray, List.set_cons_zero, List.set_cons_succ, i64_w, i32_w]
  rfl
 refine done_ (by kernel_rfl) ?_
 go_wp2_with fail
 go_ret
 exact ⟨rfl, HB3.out⟩
set_option maxRecDepth 100000 in
set_option maxHeartbeats 8000000 in
theorem check_25 (p : Nat) (At : Option Addr) (ct : Nat) (ns : List S101) (root : Int) (ol : List Int) (q : Int) (h0 : 0 ≤ q) (h1 : q < ns.length) (hk : kdOf ns q = 25) (hKI : KidsIn ns) (w : World) (hS : Sc p At ct ns root ol w) :
  Calls Try.prog 52 #[.pointer (some ⟨p, 0, none⟩), .int .i64 q] w fun e w' => e = .returned (.int .i64 (if procF ns (nmOf ns q) = -1 then 3 else if plainF ns (procF ns (nmOf ns q)) = true then 0 else 5)) ∧ Below w.heap.size w w' := by
 have hmf : ∀ (fn : Fn) (first cap : Array Value) (w : World), (Instr.makeFunc fn first cap).run Try.prog w = .ok (.func fn first cap) w := fun _ _ _ _ => rfl
 have hkq := hKI (rd_T101 ns q) (rd24_mem ns q h0 h1)
 have hsz := KidsIn.size hS h0 h1
 have hbx : Below w.heap.size w (w.alloc (.cells #[.pointer (some ⟨p, 0, none⟩)] 102)) := below_alloc (Below.refl _ _) _
 obtain ⟨Wb, hWb⟩ : ∃ W_, W_ = w.alloc (.cells #[.pointer (some ⟨p, 0, none⟩)] 102) := ⟨_, rfl⟩
 rw [← hWb] at hbx
 obtain ⟨bo, g, r0, l, Lb, h⟩ := hS.below hbx
 have cp0 : Wb.cell? ⟨p, 0, none⟩ = some (.slice At ns.length ct) := (blk_cell h.hp 0).trans rfl
 have cb : Wb.cell? ⟨w.heap.size, 0, none⟩ = some (.pointer (some ⟨p, 0, none⟩)) := by rw [hWb]; exact (blk_cell (heap_alloc_new w _) 0).trans rfl
 obtain ⟨ad, A4, c4, eA, z0, z1, z2, z3, z4, l4, g4⟩ := at_T101 h.hC q h0 h1
 have e0 := eq_true h0
 have e1 := eq_true h1
 have hk0 : kdOf ns q = (rd_T101 ns q).f0 := rfl
 have ht0 : nmOf ns q = (rd_T101 ns q).f3.data.toList := rfl
 obtain ⟨x, hx⟩ : ∃ x, x = rd_T101 ns q := ⟨_, rfl⟩
 rw [← hx] at z0 z1 z2 z3 z4 l4 g4 hkq hsz hk0 ht0
 obtain ⟨k, n, at_, tx, kl⟩ := x
 dsimp only at z0 z1 z2 z3 z4 l4 g4 hkq hsz hk0 ht0
 rw [hk] at hk0
 subst hk0
 have x3 := heap_alloc_new w (.cells #[.pointer (some ⟨p, 0, none⟩)] 102)
 rw [← hWb] at x3
 have hb0 : Below w.heap.size w (Wb.alloc (.cells #[.int .i64 25, .int .i64 n, .int .i64 at_, .string tx, .slice A4 kl.length c4] 101)) := below_alloc hbx _
 have hbC : Below Wb.heap.size Wb (Wb.alloc (.cells #[.int .i64 25, .int .i64 n, .int .i64 at_, .string tx, .slice A4 kl.length c4] 101)) := below_alloc (Below.refl _ _) _
 replace x3 := blk_alloc x3 (.cells #[.int .i64 25, .int .i64 n, .int .i64 at_, .string tx, .slice A4 kl.length c4] 101)
 have x5 := heap_alloc_new Wb (.cells #[.int .i64 25, .int .i64 n, .int .i64 at_, .string tx, .slice A4 kl.length c4] 101)
 rw [show Wb.heap.size = w.heap.size + 1 from by rw [hWb]; simp] at x5
 have HCW := Lib.hid (fun (w' : World) (hb : Below (Wb.alloc (.cells #[.int .i64 25, .int .i64 n, .int .i64 at_, .string tx, .slice A4 kl.length c4] 101)).heap.size (Wb.alloc (.cells #[.int .i64 25, .int .i64 n, .int .i64 at_, .string tx, .slice A4 kl.length c4] 101)) w') => Kd.C_below (Kd.C_below g4 hbC) hb)
 obtain ⟨W0, hW0⟩ : ∃ W_, W_ = Wb.alloc (.cells #[.int .i64 25, .int .i64 n, .int .i64 at_, .string tx, .slice A4 kl.length c4] 101) := ⟨_, rfl⟩
 rw [← hW0] at hb0 x3 x5 HCW
 have HB0 := Lib.hid hb0
 have X30 := Lib.hid x3
 have X50 := Lib.hid x5
 have HW0 := Lib.hid hW0
 have HS := Lib.hid (fun (w' : World) (hb : Below w.heap.size w w') => hS.below hb)
 have HKQ := Lib.hid hkq
 have hkl := hkq.2
 have HSZ := Lib.hid hsz
 have HT0 := Lib.hid ht0
 have HKI := Lib.hid hKI
 cases eA
 clear h hb0 hbC x3 x5 hW0 hbx g4 hkq hsz hx hKI hk hS
 have HPC := Lib.hid (fun (w' : World) (hb : Below w.heap.size w w') => proc_is p (some ad) ct ns root ol tx HSZ.out w' (HS.out w' hb))
 have HPR := Lib.hid (procF_range ns tx.data.toList)
 have HPL := Lib.hid (fun (pp : Int) (w' : World) (hb : Below w.heap.size w w') (h0 : 0 ≤ pp) (h1 : pp < ns.length) => plain_is p (some ad) ct ns root ol pp h0 h1 HKI.out w' (HS.out w' hb))
 rw [HT0.out]
 obtain ⟨pp, hpp⟩ : ∃ pp, pp = procF ns tx.data.toList := ⟨_, rfl⟩
 rw [← hpp] at HPC HPR ⊢
 clear hpp
 obtain ⟨pb, hpb⟩ : ∃ pb, pb = plainF ns pp := ⟨_, rfl⟩
 have HPL1 := Lib.hid (HPL.out pp)
 rw [← hpb] at HPL1 ⊢
 clear hpb HPL
 obtain ⟨R, hR⟩ : ∃ R : Int, R = if pp = -1 then 3 else if pb = true then 0 else 5 := ⟨_, rfl⟩
 rw [← hR]
 have HR0 := Lib.hid hR
 clear hR
 subst hWb
 go_enter Try.func52, Try.ntmps52
 go_wp2_with fail
 rw [← HW0.out]
 clear z0 z1 z2 z3 z4 cp0 cb e0 e1
 refine (HPC.out W0 HB0.out).mono ?_
 rintro e_ W1 ⟨rfl, hb_⟩
 have HB1 := Lib.hid (below_step (HB0.out) hb_)
 have X31 := Lib.hid (blk_below (X30.out) hb_)
 have X51 := Lib.hid (blk_below (X50.out) hb_)
 clear hb_
 have c31 : W1.cell? ⟨w.heap.size, 0, none⟩ = some (.pointer (some ⟨p, 0, none⟩)) := (blk_cell X31.out 0).trans rfl
 by_cases hpp : pp = -1
 ·subst hpp
  have hR := HR0.out
  rw [if_pos rfl] at hR
  subst hR
  clear HR0 HPR
  go_wp2_with fail
  go_ret
  exact ⟨rfl, HB1.out⟩
 ·have hR := HR0.out
  rw [if_neg hpp] at hR
  have HR := Lib.hid hR
  clear hR HR0
  have hpr := HPR.out.resolve_left hpp
  have HPQ := Lib.hid (HPL1.out W1 HB1.out hpr.1 hpr.2)
  clear hpr HPR HPL1
  go_wp2_with fail
  refine HPQ.out.mono ?_
  rintro e_ W2 ⟨rfl, hb_⟩
  have HB2 := Lib.hid (below_step (HB1.out) hb_)
  have X32 := Lib.hid (blk_below (X31.out) hb_)
  have X52 := Lib.hid (blk_below (X51.out) hb_)
  clear hb_
  go_wp2_with fail
  refine (told_is pb _).mono ?_
  rintro e_ w_ ⟨he_, rfl⟩
  rw [← HR.out] at he_
  subst he_
  go_wp2_with fail
  go_ret
  exact ⟨rfl, HB2.out⟩
set_option maxRecDepth 100000 in
set_option maxHeartbeats 8000000 in
theorem check_26 (p : Nat) (At : Option Addr) (ct : Nat) (ns : List S101) (root : Int) (ol : List Int) (q : Int) (h0 : 0 ≤ q) (h1 : q < ns.length) (hk : kdOf ns q = 26) (hKI : KidsIn ns) (w : World) (hS : Sc p At ct ns root ol w) :
  Calls Try.prog 52 #[.pointer (some ⟨p, 0, none⟩), .int .i64 q] w fun e w' => e = .returned (.int .i64 (if operandsF ns ol (nmOf ns q) (rd_T101 ns q).f4 = true then 0 else 5)) ∧ Below w.heap.size w w' := by
 have hmf : ∀ (fn : Fn) (first cap : Array Value) (w : World), (Instr.makeFunc fn first cap).run Try.prog w = .ok (.func fn first cap) w := fun _ _ _ _ => rfl
 have hkq := hKI (rd_T101 ns q) (rd24_mem ns q h0 h1)
 have hsz := KidsIn.size hS h0 h1
 have hbx : Below w.heap.size w (w.alloc (.cells #[.pointer (some ⟨p, 0, none⟩)] 102)) := below_alloc (Below.refl _ _) _
 obtain ⟨Wb, hWb⟩ : ∃ W_, W_ = w.alloc (.cells #[.pointer (some ⟨p, 0, none⟩)] 102) := ⟨_, rfl⟩
 rw [← hWb] at hbx
 obtain ⟨bo, g, r0, l, Lb, h⟩ := hS.below hbx
 have cp0 : Wb.cell? ⟨p, 0, none⟩ = some (.slice At ns.length ct) := (blk_cell h.hp 0).trans rfl
 have cb : Wb.cell? ⟨w.heap.size, 0, none⟩ = some (.pointer (some ⟨p, 0, none⟩)) := by rw [hWb]; exact (blk_cell (heap_alloc_new w _) 0).trans rfl
 obtain ⟨ad, A4, c4, eA, z0, z1, z2, z3, z4, l4, g4⟩ := at_T101 h.hC q h0 h1
 have e0 := eq_true h0
 have e1 := eq_true h1
 have hk0 : kdOf ns q = (rd_T101 ns q).f0 := rfl
 have ht0 : nmOf ns q = (rd_T101 ns q).f3.data.toList := rfl
 obtain ⟨x, hx⟩ : ∃ x, x = rd_T101 ns q := ⟨_, rfl⟩
 rw [← hx] at z0 z1 z2 z3 z4 l4 g4 hkq hsz hk0 ht0 ⊢
 obtain ⟨k, n, at_, tx, kl⟩ := x
 dsimp only at z0 z1 z2 z3 z4 l4 g4 hkq hsz hk0 ht0 ⊢
 rw [hk] at hk0
 subst hk0
 have x3 := heap_alloc_new w (.cells #[.pointer (some ⟨p, 0, none⟩)] 102)
 rw [← hWb] at x3
 have hb0 : Below w.heap.size w (Wb.alloc (.cells #[.int .i64 26, .int .i64 n, .int .i64 at_, .string tx, .slice A4 kl.length c4] 101)) := below_alloc hbx _
 have hbC : Below Wb.heap.size Wb (Wb.alloc (.cells #[.int .i64 26, .int .i64 n, .int .i64 at_, .string tx, .slice A4 kl.length c4] 101)) := below_alloc (Below.refl _ _) _
 replace x3 := blk_alloc x3 (.cells #[.int .i64 26, .int .i64 n, .int .i64 at_, .string tx, .slice A4 kl.length c4] 101)
 have x5 := heap_alloc_new Wb (.cells #[.int .i64 26, .int .i64 n, .int .i64 at_, .string tx, .slice A4 kl.length c4] 101)
 rw [show Wb.heap.size = w.heap.size + 1 from by rw [hWb]; simp] at x5
 have HCW := Lib.hid (fun (w' : World) (hb : Below (Wb.alloc (.cells #[.int .i64 26, .int .i64 n, .int .i64 at_, .string tx, .slice A4 kl.length c4] 101)).heap.size (Wb.alloc (.cells #[.int .i64 26, .int .i64 n, .int .i64 at_, .string tx, .slice A4 kl.length c4] 101)) w') => Kd.C_below (Kd.C_below g4 hbC) hb)
 obtain ⟨W0, hW0⟩ : ∃ W_, W_ = Wb.alloc (.cells #[.int .i64 26, .int .i64 n, .int .i64 at_, .string tx, .slice A4 kl.length c4] 101) := ⟨_, rfl⟩
 rw [← hW0] at hb0 x3 x5 HCW
 have HB0 := Lib.hid hb0
 have X30 := Lib.hid x3
 have X50 := Lib.hid x5
 have HW0 := Lib.hid hW0
 have HS := Lib.hid (fun (w' : World) (hb : Below w.heap.size w w') => hS.below hb)
 have HKQ := Lib.hid hkq
 have hkl := hkq.2
 have HSZ := Lib.hid hsz
 have HT0 := Lib.hid ht0
 have HKI := Lib.hid hKI
 cases eA
 clear h hb0 hbC x3 x5 hW0 hbx g4 hkq hsz hx hKI hk hS
 rw [HT0.out]
 have HO := Lib.hid (operands_is p (some ad) ct ns root ol 26 n at_ tx A4 c4 kl HKQ.out.1 HKQ.out.2 W0 (HS.out W0 HB0.out) (HCW.out W0 (Below.refl _ _)) l4)
 obtain ⟨ob, hob⟩ : ∃ ob, ob = operandsF ns ol tx.data.toList kl := ⟨_, rfl⟩
 rw [← hob] at HO ⊢
 clear hob
 obtain ⟨R, hR⟩ : ∃ R : Int, R = if ob = true then 0 else 5 := ⟨_, rfl⟩
 rw [← hR]
 have HR := Lib.hid hR
 clear hR
 subst hWb
 go_enter Try.func52, Try.ntmps52
 go_wp2_with fail
 rw [← HW0.out]
 clear z0 z1 z2 z3 z4 cp0 cb e0 e1
 refine HO.out.mono ?_
 rintro e_ W1 ⟨rfl, hb_⟩
 have HB1 := Lib.hid (below_step (HB0.out) hb_)
 have X31 := Lib.hid (blk_below (X30.out) hb_)
 have X51 := Lib.hid (blk_below (X50.out) hb_)
 clear hb_
 go_wp2_with fail
 refine (told_is ob _).mono ?_
 rintro e_ w_ ⟨he_, rfl⟩
 rw [← HR.out] at he_
 subst he_
 go_wp2_with fail
 go_ret
 exact ⟨rfl, HB1.out⟩
set_option maxRecDepth 100000 in
set_option maxHeartbeats 8000000 in
theorem check_27 (p : Nat) (At : Option Addr) (ct : Nat) (ns : List S101) (root : Int) (ol : List Int) (q : Int) (h0 : 0 ≤ q) (h1 : q < ns.length) (hk : kdOf ns q = 27) (hKI : KidsIn ns) (w : World) (hS : Sc p At ct ns root ol w) :
  Calls Try.prog 52 #[.pointer (some ⟨p, 0, none⟩), .int .i64 q] w fun e w' => e = .returned (.int .i64 (if operandsF ns ol (nmOf ns q) (rd_T101 ns q).f4 = true then 0 else 5)) ∧ Below w.heap.size w w' := by
 have hmf : ∀ (fn : Fn) (first cap : Array Value) (w : World), (Instr.makeFunc fn first cap).run Try.prog w = .ok (.func fn first cap) w := fun _ _ _ _ => rfl
 have hkq := hKI (rd_T101 ns q) (rd24_mem ns q h0 h1)
 have hsz := KidsIn.size hS h0 h1
 have hbx : Below w.heap.size w (w.alloc (.cells #[.pointer (some ⟨p, 0, none⟩)] 102)) := below_alloc (Below.refl _ _) _
 obtain ⟨Wb, hWb⟩ : ∃ W_, W_ = w.alloc (.cells #[.pointer (some ⟨p, 0, none⟩)] 102) := ⟨_, rfl⟩
 rw [← hWb] at hbx
 obtain ⟨bo, g, r0, l, Lb, h⟩ := hS.below hbx
 have cp0 : Wb.cell? ⟨p, 0, none⟩ = some (.slice At ns.length ct) := (blk_cell h.hp 0).trans rfl
 have cb : Wb.cell? ⟨w.heap.size, 0, none⟩ = some (.pointer (some ⟨p, 0, none⟩)) := by rw [hWb]; exact (blk_cell (heap_alloc_new w _) 0).trans rfl
 obtain ⟨ad, A4, c4, eA, z0, z1, z2, z3, z4, l4, g4⟩ := at_T101 h.hC q h0 h1
 have e0 := eq_true h0
 have e1 := eq_true h1
 have hk0 : kdOf ns q = (rd_T101 ns q).f0 := rfl
 have ht0 : nmOf ns q = (rd_T101 ns q).f3.data.toList := rfl
 obtain ⟨x, hx⟩ : ∃ x, x = rd_T101 ns q := ⟨_, rfl⟩
 rw [← hx] at z0 z1 z2 z3 z4 l4 g4 hkq hsz hk0 ht0 ⊢
 obtain ⟨k, n, at_, tx, kl⟩ := x
 dsimp only at z0 z1 z2 z3 z4 l4 g4 hkq hsz hk0 ht0 ⊢
 rw [hk] at hk0
 subst hk0
 have x3 := heap_alloc_new w (.cells #[.pointer (some ⟨p, 0, none⟩)] 102)
 rw [← hWb] at x3
 have hb0 : Below w.heap.size w (Wb.alloc (.cells #[.int .i64 27, .int .i64 n, .int .i64 at_, .string tx, .slice A4 kl.length c4] 101)) := below_alloc hbx _
 have hbC : Below Wb.heap.size Wb (Wb.alloc (.cells #[.int .i64 27, .int .i64 n, .int .i64 at_, .string tx, .slice A4 kl.length c4] 101)) := below_alloc (Below.refl _ _) _
 replace x3 := blk_alloc x3 (.cells #[.int .i64 27, .int .i64 n, .int .i64 at_, .string tx, .slice A4 kl.length c4] 101)
 have x5 := heap_alloc_new Wb (.cells #[.int .i64 27, .int .i64 n, .int .i64 at_, .string tx, .slice A4 kl.length c4] 101)
 rw [show Wb.heap.size = w.heap.size + 1 from by rw [hWb]; simp] at x5
 have HCW := Lib.hid (fun (w' : World) (hb : Below (Wb.alloc (.cells #[.int .i64 27, .int .i64 n, .int .i64 at_, .string tx, .slice A4 kl.length c4] 101)).heap.size (Wb.alloc (.cells #[.int .i64 27, .int .i64 n, .int .i64 at_, .string tx, .slice A4 kl.length c4] 101)) w') => Kd.C_below (Kd.C_below g4 hbC) hb)
 obtain ⟨W0, hW0⟩ : ∃ W_, W_ = Wb.alloc (.cells #[.int .i64 27, .int .i64 n, .int .i64 at_, .string tx, .slice A4 kl.length c4] 101) := ⟨_, rfl⟩
 rw [← hW0] at hb0 x3 x5 HCW
 have HB0 := Lib.hid hb0
 have X30 := Lib.hid x3
 have X50 := Lib.hid x5
 have HW0 := Lib.hid hW0
 have HS := Lib.hid (fun (w' : World) (hb : Below w.heap.size w w') => hS.below hb)
 have HKQ := Lib.hid hkq
 have hkl := hkq.2
 have HSZ := Lib.hid hsz
 have HT0 := Lib.hid ht0
 have HKI := Lib.hid hKI
 cases eA
 clear h hb0 hbC x3 x5 hW0 hbx g4 hkq hsz hx hKI hk hS
 rw [HT0.out]
 have HO := Lib.hid (operands_is p (some ad) ct ns root ol 27 n at_ tx A4 c4 kl HKQ.out.1 HKQ.out.2 W0 (HS.out W0 HB0.out) (HCW.out W0 (Below.refl _ _)) l4)
 obtain ⟨ob, hob⟩ : ∃ ob, ob = operandsF ns ol tx.data.toList kl := ⟨_, rfl⟩
 rw [← hob] at HO ⊢
 clear hob
 obtain ⟨R, hR⟩ : ∃ R : Int, R = if ob = true then 0 else 5 := ⟨_, rfl⟩
 rw [← hR]
 have HR := Lib.hid hR
 clear hR
 subst hWb
 go_enter Try.func52, Try.ntmps52
 go_wp2_with fail
 rw [← HW0.out]
 clear z0 z1 z2 z3 z4 cp0 cb e0 e1
 refine HO.out.mono ?_
 rintro e_ W1 ⟨rfl, hb_⟩
 have HB1 := Lib.hid (below_step (HB0.out) hb_)
 have X31 := Lib.hid (blk_below (X30.out) hb_)
 have X51 := Lib.hid (blk_below (X50.out) hb_)
 clear hb_
 go_wp2_with fail
 refine (told_is ob _).mono ?_
 rintro e_ w_ ⟨he_, rfl⟩
 rw [← HR.out] at he_
 subst he_
 go_wp2_with fail
 go_ret
 exact ⟨rfl, HB1.out⟩
end Go.Proofs.Ytkhlfdcjgooogaa.P
