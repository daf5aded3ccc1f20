import Derived.Test.YtkhlfdcjgooogaaTrB
import Derived.Test.YtkhlfdcjgooogaaWMore
set_option linter.unusedVariables false
set_option linter.unusedSimpArgs false
namespace Go.Proofs.Ytkhlfdcjgooogaa.P
open Go.RowKit Go.Proofs.YtkhlfdcjgooogaaW.PrintWords Go.Proofs.YtkhlfdcjgooogaaW.PrintLast Go.Proofs.YtkhlfdcjgooogaaW.PrintMore
def stB (x : Int) : Bool := decide (7 ≤ x) && decide (x ≤ 17)
def exB (x : Int) : Bool := decide (20 ≤ x) && decide (x ≤ 27)
theorem st_f (x : Int) : tree_statement.f x = some (stB x) := by
 unfold tree_statement.f stB
 by_cases h : 7 ≤ x
 ·rw [if_pos h, decide_eq_true h, Bool.true_and]
 ·rw [if_neg h, decide_eq_false h, Bool.false_and]
theorem ex_f (x : Int) : tree_expression.f x = some (exB x) := by
 unfold tree_expression.f exB
 by_cases h : 20 ≤ x
 ·rw [if_pos h, decide_eq_true h, Bool.true_and]
 ·rw [if_neg h, decide_eq_false h, Bool.false_and]
theorem TakeW.step {w W : World} {gi gn gt : Nat} {k n at_ : Int} {tx : ByteArray} {Ak : Option Addr} {ck : Nat} {kl : List Int} {At : Option Addr} {ct : Nat} {nodes : List S101} {root : Int}
  (h : TakeW w gi gn gt k n at_ tx Ak ck kl At ct nodes root) (hk : KeepBut w W gi none) : TakeW W gi gn gt k n at_ tx Ak ck kl At ct nodes root :=
 ⟨KeepBut.blk hk h.hN h.gn_ (by simp), KeepBut.blk hk h.hT h.gt_ (by simp), h.gn_, h.gt_, h.hck, h.hct, h.hkl, h.hnl, fun W' h' => h.hK W' (hk.trans h' (.inl rfl)), fun W' h' => h.hTr W' (hk.trans h' (.inl rfl)), h.hin⟩
def KS (w : World) (k n at_ : Int) (tx : ByteArray) (Ak : Option Addr) (ck : Nat) (kl : List Int) (At : Option Addr) (ct : Nat) (nodes : List S101) (root : Int) (W : World) (i : Nat) : Prop :=
 TakeW W (w.heap.size + 1 + 1) (w.heap.size + 1) w.heap.size k n at_ tx Ak ck kl At ct nodes root ∧ W.heap[w.heap.size + 1 + 1]? = some (.cells #[.int .i64 i] 3 (0, 0)) ∧ Below w.heap.size w W ∧ i ≤ kl.length
theorem tr_new1 (X : World) (o o' : Obj) : ((X.alloc o).alloc o').heap[X.heap.size + 1]? = some o' := by
 have h := heap_alloc_new (X.alloc o) o'
 rwa [World.size_alloc] at h
theorem heap24 : Kd.Heap k101 := Kd.heap_iso _ (Kd.heap_pair (Kd.heap_int .i64) (Kd.heap_pair (Kd.heap_int .i64) (Kd.heap_pair (Kd.heap_int .i64) (Kd.heap_pair Kd.heap_string (Kd.heap_slice 3 (Kd.heap_int .i64))))))
section
variable {w W : World} {k n at_ : Int} {tx : ByteArray} {Ak : Option Addr} {ck : Nat} {kl : List Int} {At : Option Addr} {ct : Nat} {nodes : List S101} {root : Int}
theorem KS.start (hK : Kd.C (Kd.int .i64) w Ak kl.length kl) (hT : Kd.C k101 w At nodes.length nodes) (hck : kl.length ≤ ck) (hct : nodes.length ≤ ct) (hkl : kl.length ≤ 4000) (hnl : nodes.length ≤ 4000) (hin : ∀ x ∈ kl, 0 ≤ x ∧ x < nodes.length) :
  KS w k n at_ tx Ak ck kl At ct nodes root (((w.alloc (.cells #[.slice At nodes.length ct, .int .i64 root] 69)).alloc (.cells #[.int .i64 k, .int .i64 n, .int .i64 at_, .string tx, .slice Ak kl.length ck] 101)).alloc (.cells #[.int .i64 0] 3)) 0 := by
 have hb : Below w.heap.size w (((w.alloc (.cells #[.slice At nodes.length ct, .int .i64 root] 69)).alloc (.cells #[.int .i64 k, .int .i64 n, .int .i64 at_, .string tx, .slice Ak kl.length ck] 101)).alloc (.cells #[.int .i64 0] 3)) := below_alloc (below_alloc (below_alloc (Below.refl _ _) _) _) _
 refine ⟨⟨blk_alloc (tr_new1 w _ _) _, blk_alloc (blk_alloc (heap_alloc_new w _) _) _, by omega, by omega, hck, hct, hkl, hnl, Kd.C_foot_came (Kd.heap_int .i64) hK hb (by omega), Kd.C_foot_came heap24 hT hb (by omega), hin⟩, ?_, hb, Nat.zero_le _⟩
 have := heap_alloc_new ((w.alloc (.cells #[.slice At nodes.length ct, .int .i64 root] 69)).alloc (.cells #[.int .i64 k, .int .i64 n, .int .i64 at_, .string tx, .slice Ak kl.length ck] 101)) (.cells #[.int .i64 0] 3)
 rw [World.size_alloc, World.size_alloc] at this
 exact this
theorem take_st45 (i : Nat) (most : Int) (h0 : 0 ≤ most) (hm : most ≤ 4000) (h : KS w k n at_ tx Ak ck kl At ct nodes root W i) :
  Calls Try.prog 94 #[.int .i64 most, .func (.func 98) #[] #[], .pointer (some ⟨w.heap.size + 1 + 1, 0, none⟩), .pointer (some ⟨w.heap.size + 1, 0, none⟩), .pointer (some ⟨w.heap.size, 0, none⟩)] W fun e W2 =>
   ∃ R : Nat, e = .returned (.int .i64 R) ∧ Hid (R = runF stB most.toNat ((kindsOf nodes kl).drop i)) ∧ Hid (KS w k n at_ tx Ak ck kl At ct nodes root W2 (i + R)) := by
 obtain ⟨h1, h2, h3, h4⟩ := h
 refine (take_45 most h0 hm stB _ _ _ i k n at_ tx Ak ck kl At ct nodes root w.heap.size w W h1 h2 h4 (fun W' x _ => (tree_statement.calls x (stB x) W' (st_f x)).mono fun e w' ⟨he, m, hd⟩ => ⟨he, m, hd⟩) h3 (by omega)).mono ?_
 rintro e W2 ⟨rfl, hk, hb, hi⟩
 refine ⟨_, rfl, Lib.hid rfl, Lib.hid ⟨h1.step hk, hi, hb, ?_⟩⟩
 have := runF_le stB ((kindsOf nodes kl).drop i) most.toNat
 simp [kindsOf] at this
 simp [kindsOf]
 omega
theorem take_st46 (i : Nat) (most : Int) (h0 : 0 ≤ most) (hm : most ≤ 4000) (h : KS w k n at_ tx Ak ck kl At ct nodes root W i) :
  Calls Try.prog 94 #[.int .i64 most, .func (.func 99) #[] #[], .pointer (some ⟨w.heap.size + 1 + 1, 0, none⟩), .pointer (some ⟨w.heap.size + 1, 0, none⟩), .pointer (some ⟨w.heap.size, 0, none⟩)] W fun e W2 =>
   ∃ R : Nat, e = .returned (.int .i64 R) ∧ Hid (R = runF exB most.toNat ((kindsOf nodes kl).drop i)) ∧ Hid (KS w k n at_ tx Ak ck kl At ct nodes root W2 (i + R)) := by
 obtain ⟨h1, h2, h3, h4⟩ := h
 refine (take_46 most h0 hm exB _ _ _ i k n at_ tx Ak ck kl At ct nodes root w.heap.size w W h1 h2 h4 (fun W' x _ => (tree_expression.calls x (exB x) W' (ex_f x)).mono fun e w' ⟨he, m, hd⟩ => ⟨he, m, hd⟩) h3 (by omega)).mono ?_
 rintro e W2 ⟨rfl, hk, hb, hi⟩
 refine ⟨_, rfl, Lib.hid rfl, Lib.hid ⟨h1.step hk, hi, hb, ?_⟩⟩
 have := runF_le exB ((kindsOf nodes kl).drop i) most.toNat
 simp [kindsOf] at this
 simp [kindsOf]
 omega
theorem take_is (i : Nat) (kind most : Int) (h0 : 0 ≤ most) (hm : most ≤ 4000) (h : KS w k n at_ tx Ak ck kl At ct nodes root W i) :
  Calls Try.prog 94 #[.int .i64 most, .func (.func 96) #[] #[.pointer (some ⟨W.heap.size, 0, none⟩)], .pointer (some ⟨w.heap.size + 1 + 1, 0, none⟩), .pointer (some ⟨w.heap.size + 1, 0, none⟩), .pointer (some ⟨w.heap.size, 0, none⟩)] (W.alloc (.cells #[.int .i64 kind] 3)) fun e W2 =>
   ∃ R : Nat, e = .returned (.int .i64 R) ∧ Hid (R = runF (fun x => x == kind) most.toNat ((kindsOf nodes kl).drop i)) ∧ Hid (KS w k n at_ tx Ak ck kl At ct nodes root W2 (i + R)) := by
 obtain ⟨h1, h2, h3, h4⟩ := h
 have hlt := blk_lt h2
 have hk0 : KeepBut W (W.alloc (.cells #[.int .i64 kind] 3)) (w.heap.size + 1 + 1) none := KeepBut.of_below (below_alloc (Below.refl _ _) _) _ _
 refine (take_43 W.heap.size most h0 hm (fun x => x == kind) _ _ _ i k n at_ tx Ak ck kl At ct nodes root w.heap.size w _ (h1.step hk0) (blk_alloc h2 _) h4 (fun W' x hk => is_calls kind x W.heap.size W' ((blk_cell (KeepBut.blk hk (heap_alloc_new W _) (by omega) (by simp)) 0).trans rfl)) (below_alloc h3 _) (by omega)).mono ?_
 rintro e W2 ⟨rfl, hk, hb, hi⟩
 refine ⟨_, rfl, Lib.hid rfl, Lib.hid ⟨(h1.step hk0).step hk, hi, hb, ?_⟩⟩
 have := runF_le (fun x => x == kind) ((kindsOf nodes kl).drop i) most.toNat
 simp [kindsOf] at this
 simp [kindsOf]
 omega
theorem end_st (i : Nat) (h : KS w k n at_ tx Ak ck kl At ct nodes root W i) :
  Calls Try.prog 97 #[.pointer (some ⟨w.heap.size + 1 + 1, 0, none⟩), .pointer (some ⟨w.heap.size + 1, 0, none⟩)] W fun e w' => e = .returned (.bool ((i : Int) == (kl.length : Int))) ∧ w' = W := by
 obtain ⟨h1, h2, h3, h4⟩ := h
 exact end_is _ _ i Ak kl.length ck W ((blk_cell h2 0).trans rfl) ((blk_cell h1.hN 4).trans rfl)
end
set_option maxRecDepth 100000 in
set_option maxHeartbeats 16000000 in
theorem kids_1 (n at_ : Int) (tx : ByteArray) (Ak : Option Addr) (ck : Nat) (kl : List Int) (At : Option Addr) (ct : Nat) (nodes : List S101) (root : Int) (R0 : Nat) (h0 : R0 = runF (fun x => x == 2) 4000 ((kindsOf nodes kl).drop (0))) (R1 : Nat) (h1 : R1 = runF (fun x => x == 3) 4000 ((kindsOf nodes kl).drop (0 + R0))) (w : World)
  (hK : Kd.C (Kd.int .i64) w Ak kl.length kl) (hT : Kd.C k101 w At nodes.length nodes) (hck : kl.length ≤ ck) (hct : nodes.length ≤ ct) (hkl : kl.length ≤ 4000) (hnl : nodes.length ≤ 4000) (hin : ∀ x ∈ kl, 0 ≤ x ∧ x < nodes.length) :
  Calls Try.prog 70 #[.agg #[.slice At nodes.length ct, .int .i64 root], nodeV 1 n at_ tx Ak kl.length ck] w fun e w' => e = .returned (.bool ((((0 + R0 + R1 : Nat) : Int) == (kl.length : Int)))) ∧ Below w.heap.size w w' := by
 have hmf : ∀ (fn : Fn) (first cap : Array Value) (w : World), (Instr.makeFunc fn first cap).run Try.prog w = .ok (.func fn first cap) w := fun _ _ _ _ => rfl
 have HKS := Lib.hid (KS.start (k := 1) (n := n) (at_ := at_) (tx := tx) (root := root) hK hT hck hct hkl hnl hin)
 have HR0 := Lib.hid h0
 have HR1 := Lib.hid h1
 clear hK hT hin h0 h1
 unfold nodeV
 go_enter Try.func70, Try.ntmps70
 go_wp2_with fail
 obtain ⟨W0, hW0⟩ : ∃ W_, W_ = ((w.alloc (.cells #[.slice At nodes.length ct, .int .i64 root] 69)).alloc (.cells #[.int .i64 1, .int .i64 n, .int .i64 at_, .string tx, .slice Ak kl.length ck] 101)).alloc (.cells #[.int .i64 0] 3) := ⟨_, rfl⟩
 rw [← hW0] at HKS ⊢
 have S0 := HKS
 clear hW0 HKS
 refine (is_new 2 W0).mono ?_
 rintro e_ w_ ⟨rfl, rfl⟩
 go_wp2_with fail
 refine (take_is _ 2 4000 (by decide) (by decide) S0.out).mono ?_
 rintro e_ W1 ⟨R_, rfl, HR_, S1⟩
 obtain rfl : R0 = R_ := HR0.out.trans HR_.out.symm
 clear HR_ S0
 go_wp2_with fail
 refine (is_new 3 W1).mono ?_
 rintro e_ w_ ⟨rfl, rfl⟩
 go_wp2_with fail
 refine (take_is _ 3 4000 (by decide) (by decide) S1.out).mono ?_
 rintro e_ W2 ⟨R_, rfl, HR_, S2⟩
 obtain rfl : R1 = R_ := HR1.out.trans HR_.out.symm
 clear HR_ S1
 go_wp2_with fail
 obtain ⟨iN, hiN⟩ : ∃ i_ : Nat, i_ = 0 + R0 + R1 := ⟨_, rfl⟩
 rw [← hiN] at S2
 have HIN := Lib.hid hiN
 clear hiN
 refine (end_st _ S2.out).mono ?_
 rintro e_ w_ ⟨rfl, rfl⟩
 go_wp2_with fail
 go_ret
 exact ⟨by rw [← HIN.out]; rfl, S2.out.2.2.1⟩
set_option maxRecDepth 100000 in
set_option maxHeartbeats 16000000 in
theorem kids_7 (n at_ : Int) (tx : ByteArray) (Ak : Option Addr) (ck : Nat) (kl : List Int) (At : Option Addr) (ct : Nat) (nodes : List S101) (root : Int) (R0 : Nat) (h0 : R0 = runF exB 1 ((kindsOf nodes kl).drop (0))) (w : World)
  (hK : Kd.C (Kd.int .i64) w Ak kl.length kl) (hT : Kd.C k101 w At nodes.length nodes) (hck : kl.length ≤ ck) (hct : nodes.length ≤ ct) (hkl : kl.length ≤ 4000) (hnl : nodes.length ≤ 4000) (hin : ∀ x ∈ kl, 0 ≤ x ∧ x < nodes.length) :
  Calls Try.prog 70 #[.agg #[.slice At nodes.length ct, .int .i64 root], nodeV 7 n at_ tx Ak kl.length ck] w fun e w' => e = .returned (.bool (((R0 : Int) == 1) && (((0 + R0 : Nat) : Int) == (kl.length : Int)))) ∧ Below w.heap.size w w' := by
 have hmf : ∀ (fn : Fn) (first cap : Array Value) (w : World), (Instr.makeFunc fn first cap).run Try.prog w = .ok (.func fn first cap) w := fun _ _ _ _ => rfl
 have HKS := Lib.hid (KS.start (k := 7) (n := n) (at_ := at_) (tx := tx) (root := root) hK hT hck hct hkl hnl hin)
 have HR0 := Lib.hid h0
 clear hK hT hin h0
 unfold nodeV
 go_enter Try.func70, Try.ntmps70
 go_wp2_with fail
 obtain ⟨W0, hW0⟩ : ∃ W_, W_ = ((w.alloc (.cells #[.slice At nodes.length ct, .int .i64 root] 69)).alloc (.cells #[.int .i64 7, .int .i64 n, .int .i64 at_, .string tx, .slice Ak kl.length ck] 101)).alloc (.cells #[.int .i64 0] 3) := ⟨_, rfl⟩
 rw [← hW0] at HKS ⊢
 have S0 := HKS
 clear hW0 HKS
 refine (take_st46 _ 1 (by decide) (by decide) S0.out).mono ?_
 rintro e_ W1 ⟨R_, rfl, HR_, S1⟩
 obtain rfl : R0 = R_ := HR0.out.trans HR_.out.symm
 clear HR_ S0
 by_cases hc0 : R0 = 1
 ·have q0 : ((R0 : Int) == 1) = true := by simp [hc0]
  go_wp2_with fail
  obtain ⟨iN, hiN⟩ : ∃ i_ : Nat, i_ = 0 + R0 := ⟨_, rfl⟩
  rw [← hiN] at S1
  have HIN := Lib.hid hiN
  clear hiN
  refine (end_st _ S1.out).mono ?_
  rintro e_ w_ ⟨rfl, rfl⟩
  go_wp2_with fail
  go_ret
  exact ⟨by rw [q0, ← HIN.out]; rfl, S1.out.2.2.1⟩
 ·have q0 : ((R0 : Int) == 1) = false := by simp; omega
  go_wp2_with fail
  go_ret
  exact ⟨by rw [q0]; rfl, S1.out.2.2.1⟩
set_option maxRecDepth 100000 in
set_option maxHeartbeats 16000000 in
theorem kids_23 (n at_ : Int) (tx : ByteArray) (Ak : Option Addr) (ck : Nat) (kl : List Int) (At : Option Addr) (ct : Nat) (nodes : List S101) (root : Int) (R0 : Nat) (h0 : R0 = runF exB 1 ((kindsOf nodes kl).drop (0))) (w : World)
  (hK : Kd.C (Kd.int .i64) w Ak kl.length kl) (hT : Kd.C k101 w At nodes.length nodes) (hck : kl.length ≤ ck) (hct : nodes.length ≤ ct) (hkl : kl.length ≤ 4000) (hnl : nodes.length ≤ 4000) (hin : ∀ x ∈ kl, 0 ≤ x ∧ x < nodes.length) :
  Calls Try.prog 70 #[.agg #[.slice At nodes.length ct, .int .i64 root], nodeV 23 n at_ tx Ak kl.length ck] w fun e w' => e = .returned (.bool (((R0 : Int) == 1) && (((0 + R0 : Nat) : Int) == (kl.length : Int)))) ∧ Below w.heap.size w w' := by
 have hmf : ∀ (fn : Fn) (first cap : Array Value) (w : World), (Instr.makeFunc fn first cap).run Try.prog w = .ok (.func fn first cap) w := fun _ _ _ _ => rfl
 have HKS := Lib.hid (KS.start (k := 23) (n := n) (at_ := at_) (tx := tx) (root := root) hK hT hck hct hkl hnl hin)
 have HR0 := Lib.hid h0
 clear hK hT hin h0
 unfold nodeV
 go_enter Try.func70, Try.ntmps70
 go_wp2_with fail
 obtain ⟨W0, hW0⟩ : ∃ W_, W_ = ((w.alloc (.cells #[.slice At nodes.length ct, .int .i64 root] 69)).alloc (.cells #[.int .i64 23, .int .i64 n, .int .i64 at_, .string tx, .slice Ak kl.length ck] 101)).alloc (.cells #[.int .i64 0] 3) := ⟨_, rfl⟩
 rw [← hW0] at HKS ⊢
 have S0 := HKS
 clear hW0 HKS
 refine (take_st46 _ 1 (by decide) (by decide) S0.out).mono ?_
 rintro e_ W1 ⟨R_, rfl, HR_, S1⟩
 obtain rfl : R0 = R_ := HR0.out.trans HR_.out.symm
 clear HR_ S0
 by_cases hc0 : R0 = 1
 ·have q0 : ((R0 : Int) == 1) = true := by simp [hc0]
  go_wp2_with fail
  obtain ⟨iN, hiN⟩ : ∃ i_ : Nat, i_ = 0 + R0 := ⟨_, rfl⟩
  rw [← hiN] at S1
  have HIN := Lib.hid hiN
  clear hiN
  refine (end_st _ S1.out).mono ?_
  rintro e_ w_ ⟨rfl, rfl⟩
  go_wp2_with fail
  go_ret
  exact ⟨by rw [q0, ← HIN.out]; rfl, S1.out.2.2.1⟩
 ·have q0 : ((R0 : Int) == 1) = false := by simp; omega
  go_wp2_with fail
  go_ret
  exact ⟨by rw [q0]; rfl, S1.out.2.2.1⟩
set_option maxRecDepth 100000 in
set_option maxHeartbeats 16000000 in
theorem kids_27 (n at_ : Int) (tx : ByteArray) (Ak : Option Addr) (ck : Nat) (kl : List Int) (At : Option Addr) (ct : Nat) (nodes : List S101) (root : Int) (R0 : Nat) (h0 : R0 = runF exB 2 ((kindsOf nodes kl).drop (0))) (w : World)
  (hK : Kd.C (Kd.int .i64) w Ak kl.length kl) (hT : Kd.C k101 w At nodes.length nodes) (hck : kl.length ≤ ck) (hct : nodes.length ≤ ct) (hkl : kl.length ≤ 4000) (hnl : nodes.length ≤ 4000) (hin : ∀ x ∈ kl, 0 ≤ x ∧ x < nodes.length) :
  Calls Try.prog 70 #[.agg #[.slice At nodes.length ct, .int .i64 root], nodeV 27 n at_ tx Ak kl.length ck] w fun e w' => e = .returned (.bool (((R0 : Int) == 2) && (((0 + R0 : Nat) : Int) == (kl.length : Int)))) ∧ Below w.heap.size w w' := by
 have hmf : ∀ (fn : Fn) (first cap : Array Value) (w : World), (Instr.makeFunc fn first cap).run Try.prog w = .ok (.func fn first cap) w := fun _ _ _ _ => rfl
 have HKS := Lib.hid (KS.start (k := 27) (n := n) (at_ := at_) (tx := tx) (root := root) hK hT hck hct hkl hnl hin)
 have HR0 := Lib.hid h0
 clear hK hT hin h0
 unfold nodeV
 go_enter Try.func70, Try.ntmps70
 go_wp2_with fail
 obtain ⟨W0, hW0⟩ : ∃ W_, W_ = ((w.alloc (.cells #[.slice At nodes.length ct, .int .i64 root] 69)).alloc (.cells #[.int .i64 27, .int .i64 n, .int .i64 at_, .string tx, .slice Ak kl.length ck] 101)).alloc (.cells #[.int .i64 0] 3) := ⟨_, rfl⟩
 rw [← hW0] at HKS ⊢
 have S0 := HKS
 clear hW0 HKS
 refine (take_st46 _ 2 (by decide) (by decide) S0.out).mono ?_
 rintro e_ W1 ⟨R_, rfl, HR_, S1⟩
 obtain rfl : R0 = R_ := HR0.out.trans HR_.out.symm
 clear HR_ S0
 by_cases hc0 : R0 = 2
 ·have q0 : ((R0 : Int) == 2) = true := by simp [hc0]
  go_wp2_with fail
  obtain ⟨iN, hiN⟩ : ∃ i_ : Nat, i_ = 0 + R0 := ⟨_, rfl⟩
  rw [← hiN] at S1
  have HIN := Lib.hid hiN
  clear hiN
  refine (end_st _ S1.out).mono ?_
  rintro e_ w_ ⟨rfl, rfl⟩
  go_wp2_with fail
  go_ret
  exact ⟨by rw [q0, ← HIN.out]; rfl, S1.out.2.2.1⟩
 ·have q0 : ((R0 : Int) == 2) = false := by simp; omega
  go_wp2_with fail
  go_ret
  exact ⟨by rw [q0]; rfl, S1.out.2.2.1⟩
set_option maxRecDepth 100000 in
set_option maxHeartbeats 16000000 in
theorem kids_11 (n at_ : Int) (tx : ByteArray) (Ak : Option Addr) (ck : Nat) (kl : List Int) (At : Option Addr) (ct : Nat) (nodes : List S101) (root : Int) (R0 : Nat) (h0 : R0 = runF exB 1 ((kindsOf nodes kl).drop (0))) (R1 : Nat) (h1 : R1 = runF (fun x => x == 6) 2 ((kindsOf nodes kl).drop (0 + R0))) (w : World)
  (hK : Kd.C (Kd.int .i64) w Ak kl.length kl) (hT : Kd.C k101 w At nodes.length nodes) (hck : kl.length ≤ ck) (hct : nodes.length ≤ ct) (hkl : kl.length ≤ 4000) (hnl : nodes.length ≤ 4000) (hin : ∀ x ∈ kl, 0 ≤ x ∧ x < nodes.length) :
  Calls Try.prog 70 #[.agg #[.slice At nodes.length ct, .int .i64 root], nodeV 11 n at_ tx Ak kl.length ck] w fun e w' => e = .returned (.bool (((R0 : Int) == 1) && ((R1 : Int) == 2) && (((0 + R0 + R1 : Nat) : Int) == (kl.length : Int)))) ∧ Below w.heap.size w w' := by
 have hmf : ∀ (fn : Fn) (first cap : Array Value) (w : World), (Instr.makeFunc fn first cap).run Try.prog w = .ok (.func fn first cap) w := fun _ _ _ _ => rfl
 have HKS := Lib.hid (KS.start (k := 11) (n := n) (at_ := at_) (tx := tx) (root := root) hK hT hck hct hkl hnl hin)
 have HR0 := Lib.hid h0
 have HR1 := Lib.hid h1
 clear hK hT hin h0 h1
 unfold nodeV
 go_enter Try.func70, Try.ntmps70
 go_wp2_with fail
 obtain ⟨W0, hW0⟩ : ∃ W_, W_ = ((w.alloc (.cells #[.slice At nodes.length ct, .int .i64 root] 69)).alloc (.cells #[.int .i64 11, .int .i64 n, .int .i64 at_, .string tx, .slice Ak kl.length ck] 101)).alloc (.cells #[.int .i64 0] 3) := ⟨_, rfl⟩
 rw [← hW0] at HKS ⊢
 have S0 := HKS
 clear hW0 HKS
 refine (take_st46 _ 1 (by decide) (by decide) S0.out).mono ?_
 rintro e_ W1 ⟨R_, rfl, HR_, S1⟩
 obtain rfl : R0 = R_ := HR0.out.trans HR_.out.symm
 clear HR_ S0
 by_cases hc0 : R0 = 1
 ·have q0 : ((R0 : Int) == 1) = true := by simp [hc0]
  go_wp2_with fail
  refine (is_new 6 W1).mono ?_
  rintro e_ w_ ⟨rfl, rfl⟩
  go_wp2_with fail
  refine (take_is _ 6 2 (by decide) (by decide) S1.out).mono ?_
  rintro e_ W2 ⟨R_, rfl, HR_, S2⟩
  obtain rfl : R1 = R_ := HR1.out.trans HR_.out.symm
  clear HR_ S1
  by_cases hc1 : R1 = 2
  ·have q1 : ((R1 : Int) == 2) = true := by simp [hc1]
   go_wp2_with fail
   obtain ⟨iN, hiN⟩ : ∃ i_ : Nat, i_ = 0 + R0 + R1 := ⟨_, rfl⟩
   rw [← hiN] at S2
   have HIN := Lib.hid hiN
   clear hiN
   refine (end_st _ S2.out).mono ?_
   rintro e_ w_ ⟨rfl, rfl⟩
   go_wp2_with fail
   go_ret
   exact ⟨by rw [q0, q1, ← HIN.out]; rfl, S2.out.2.2.1⟩
  ·have q1 : ((R1 : Int) == 2) = false := by simp; omega
   go_wp2_with fail
   go_ret
   exact ⟨by rw [q0, q1]; rfl, S2.out.2.2.1⟩
 ·have q0 : ((R0 : Int) == 1) = false := by simp; omega
  go_wp2_with fail
  go_ret
  exact ⟨by rw [q0]; rfl, S1.out.2.2.1⟩
set_option maxRecDepth 100000 in
set_option maxHeartbeats 16000000 in
theorem kids_14 (n at_ : Int) (tx : ByteArray) (Ak : Option Addr) (ck : Nat) (kl : List Int) (At : Option Addr) (ct : Nat) (nodes : List S101) (root : Int) (R0 : Nat) (h0 : R0 = runF exB 1 ((kindsOf nodes kl).drop (0))) (w : World)
  (hK : Kd.C (Kd.int .i64) w Ak kl.length kl) (hT : Kd.C k101 w At nodes.length nodes) (hck : kl.length ≤ ck) (hct : nodes.length ≤ ct) (hkl : kl.length ≤ 4000) (hnl : nodes.length ≤ 4000) (hin : ∀ x ∈ kl, 0 ≤ x ∧ x < nodes.length) :
  Calls Try.prog 70 #[.agg #[.slice At nodes.length ct, .int .i64 root], nodeV 14 n at_ tx Ak kl.length ck] w fun e w' => e = .returned (.bool ((((0 + R0 : Nat) : Int) == (kl.length : Int)))) ∧ Below w.heap.size w w' := by
 have hmf : ∀ (fn : Fn) (first cap : Array Value) (w : World), (Instr.makeFunc fn first cap).run Try.prog w = .ok (.func fn first cap) w := fun _ _ _ _ => rfl
 have HKS := Lib.hid (KS.start (k := 14) (n := n) (at_ := at_) (tx := tx) (root := root) hK hT hck hct hkl hnl hin)
 have HR0 := Lib.hid h0
 clear hK hT hin h0
 unfold nodeV
 go_enter Try.func70, Try.ntmps70
 go_wp2_with fail
 obtain ⟨W0, hW0⟩ : ∃ W_, W_ = ((w.alloc (.cells #[.slice At nodes.length ct, .int .i64 root] 69)).alloc (.cells #[.int .i64 14, .int .i64 n, .int .i64 at_, .string tx, .slice Ak kl.length ck] 101)).alloc (.cells #[.int .i64 0] 3) := ⟨_, rfl⟩
 rw [← hW0] at HKS ⊢
 have S0 := HKS
 clear hW0 HKS
 refine (take_st46 _ 1 (by decide) (by decide) S0.out).mono ?_
 rintro e_ W1 ⟨R_, rfl, HR_, S1⟩
 obtain rfl : R0 = R_ := HR0.out.trans HR_.out.symm
 clear HR_ S0
 go_wp2_with fail
 obtain ⟨iN, hiN⟩ : ∃ i_ : Nat, i_ = 0 + R0 := ⟨_, rfl⟩
 rw [← hiN] at S1
 have HIN := Lib.hid hiN
 clear hiN
 refine (end_st _ S1.out).mono ?_
 rintro e_ w_ ⟨rfl, rfl⟩
 go_wp2_with fail
 go_ret
 exact ⟨by rw [← HIN.out]; rfl, S1.out.2.2.1⟩
set_option maxRecDepth 100000 in
set_option maxHeartbeats 16000000 in
theorem kids_4 (n at_ : Int) (tx : ByteArray) (Ak : Option Addr) (ck : Nat) (kl : List Int) (At : Option Addr) (ct : Nat) (nodes : List S101) (root : Int) (w : World)
  (hK : Kd.C (Kd.int .i64) w Ak kl.length kl) (hT : Kd.C k101 w At nodes.length nodes) (hck : kl.length ≤ ck) (hct : nodes.length ≤ ct) (hkl : kl.length ≤ 4000) (hnl : nodes.length ≤ 4000) (hin : ∀ x ∈ kl, 0 ≤ x ∧ x < nodes.length) :
  Calls Try.prog 70 #[.agg #[.slice At nodes.length ct, .int .i64 root], nodeV 4 n at_ tx Ak kl.length ck] w fun e w' => e = .returned (.bool ((((0 : Nat) : Int) == (kl.length : Int)))) ∧ Below w.heap.size w w' := by
 have hmf : ∀ (fn : Fn) (first cap : Array Value) (w : World), (Instr.makeFunc fn first cap).run Try.prog w = .ok (.func fn first cap) w := fun _ _ _ _ => rfl
 have HKS := Lib.hid (KS.start (k := 4) (n := n) (at_ := at_) (tx := tx) (root := root) hK hT hck hct hkl hnl hin)
 clear hK hT hin
 unfold nodeV
 go_enter Try.func70, Try.ntmps70
 go_wp2_with fail
 obtain ⟨W0, hW0⟩ : ∃ W_, W_ = ((w.alloc (.cells #[.slice At nodes.length ct, .int .i64 root] 69)).alloc (.cells #[.int .i64 4, .int .i64 n, .int .i64 at_, .string tx, .slice Ak kl.length ck] 101)).alloc (.cells #[.int .i64 0] 3) := ⟨_, rfl⟩
 rw [← hW0] at HKS ⊢
 have S0 := HKS
 clear hW0 HKS
 obtain ⟨iN, hiN⟩ : ∃ i_ : Nat, i_ = 0 := ⟨_, rfl⟩
 have S0_ : Hid (KS w 4 n at_ tx Ak ck kl At ct nodes root W0 iN) := Lib.hid (by rw [hiN]; exact S0.out)
 clear S0
 have S0 := S0_
 clear S0_
 have HIN := Lib.hid hiN
 clear hiN
 refine (end_st _ S0.out).mono ?_
 rintro e_ w_ ⟨rfl, rfl⟩
 go_wp2_with fail
 go_ret
 exact ⟨by rw [← HIN.out]; rfl, S0.out.2.2.1⟩
set_option maxRecDepth 100000 in
set_option maxHeartbeats 16000000 in
theorem kids_19 (n at_ : Int) (tx : ByteArray) (Ak : Option Addr) (ck : Nat) (kl : List Int) (At : Option Addr) (ct : Nat) (nodes : List S101) (root : Int) (w : World)
  (hK : Kd.C (Kd.int .i64) w Ak kl.length kl) (hT : Kd.C k101 w At nodes.length nodes) (hck : kl.length ≤ ck) (hct : nodes.length ≤ ct) (hkl : kl.length ≤ 4000) (hnl : nodes.length ≤ 4000) (hin : ∀ x ∈ kl, 0 ≤ x ∧ x < nodes.length) :
  Calls Try.prog 70 #[.agg #[.slice At nodes.length ct, .int .i64 root], nodeV 19 n at_ tx Ak kl.length ck] w fun e w' => e = .returned (.bool ((((0 : Nat) : Int) == (kl.length : Int)))) ∧ Below w.heap.size w w' := by
 have hmf : ∀ (fn : Fn) (first cap : Array Value) (w : World), (Instr.makeFunc fn first cap).run Try.prog w = .ok (.func fn first cap) w := fun _ _ _ _ => rfl
 have HKS := Lib.hid (KS.start (k := 19) (n := n) (at_ := at_) (tx := tx) (root := root) hK hT hck hct hkl hnl hin)
 clear hK hT hin
 unfold nodeV
 go_enter Try.func70, Try.ntmps70
 go_wp2_with fail
 obtain ⟨W0, hW0⟩ : ∃ W_, W_ = ((w.alloc (.cells #[.slice At nodes.length ct, .int .i64 root] 69)).alloc (.cells #[.int .i64 19, .int .i64 n, .int .i64 at_, .string tx, .slice Ak kl.length ck] 101)).alloc (.cells #[.int .i64 0] 3) := ⟨_, rfl⟩
 rw [← hW0] at HKS ⊢
 have S0 := HKS
 clear hW0 HKS
 obtain ⟨iN, hiN⟩ : ∃ i_ : Nat, i_ = 0 := ⟨_, rfl⟩
 have S0_ : Hid (KS w 19 n at_ tx Ak ck kl At ct nodes root W0 iN) := Lib.hid (by rw [hiN]; exact S0.out)
 clear S0
 have S0 := S0_
 clear S0_
 have HIN := Lib.hid hiN
 clear hiN
 refine (end_st _ S0.out).mono ?_
 rintro e_ w_ ⟨rfl, rfl⟩
 go_wp2_with fail
 go_ret
 exact ⟨by rw [← HIN.out]; rfl, S0.out.2.2.1⟩
set_option maxRecDepth 100000 in
set_option maxHeartbeats 16000000 in
theorem kids_22 (n at_ : Int) (tx : ByteArray) (Ak : Option Addr) (ck : Nat) (kl : List Int) (At : Option Addr) (ct : Nat) (nodes : List S101) (root : Int) (w : World)
  (hK : Kd.C (Kd.int .i64) w Ak kl.length kl) (hT : Kd.C k101 w At nodes.length nodes) (hck : kl.length ≤ ck) (hct : nodes.length ≤ ct) (hkl : kl.length ≤ 4000) (hnl : nodes.length ≤ 4000) (hin : ∀ x ∈ kl, 0 ≤ x ∧ x < nodes.length) :
  Calls Try.prog 70 #[.agg #[.slice At nodes.length ct, .int .i64 root], nodeV 22 n at_ tx Ak kl.length ck] w fun e w' => e = .returned (.bool ((((0 : Nat) : Int) == (kl.length : Int)))) ∧ Below w.heap.size w w' := by
 have hmf : ∀ (fn : Fn) (first cap : Array Value) (w : World), (Instr.makeFunc fn first cap).run Try.prog w = .ok (.func fn first cap) w := fun _ _ _ _ => rfl
 have HKS := Lib.hid (KS.start (k := 22) (n := n) (at_ := at_) (tx := tx) (root := root) hK hT hck hct hkl hnl hin)
 clear hK hT hin
 unfold nodeV
 go_enter Try.func70, Try.ntmps70
 go_wp2_with fail
 obtain ⟨W0, hW0⟩ : ∃ W_, W_ = ((w.alloc (.cells #[.slice At nodes.length ct, .int .i64 root] 69)).alloc (.cells #[.int .i64 22, .int .i64 n, .int .i64 at_, .string tx, .slice Ak kl.length ck] 101)).alloc (.cells #[.int .i64 0] 3) := ⟨_, rfl⟩
 rw [← hW0] at HKS ⊢
 have S0 := HKS
 clear hW0 HKS
 obtain ⟨iN, hiN⟩ : ∃ i_ : Nat, i_ = 0 := ⟨_, rfl⟩
 have S0_ : Hid (KS w 22 n at_ tx Ak ck kl At ct nodes root W0 iN) := Lib.hid (by rw [hiN]; exact S0.out)
 clear S0
 have S0 := S0_
 clear S0_
 have HIN := Lib.hid hiN
 clear hiN
 refine (end_st _ S0.out).mono ?_
 rintro e_ w_ ⟨rfl, rfl⟩
 go_wp2_with fail
 go_ret
 exact ⟨by rw [← HIN.out]; rfl, S0.out.2.2.1⟩
set_option maxRecDepth 100000 in
set_option maxHeartbeats 16000000 in
theorem kids_3 (n at_ : Int) (tx : ByteArray) (Ak : Option Addr) (ck : Nat) (kl : List Int) (At : Option Addr) (ct : Nat) (nodes : List S101) (root : Int) (R0 : Nat) (h0 : R0 = runF (fun x => x == 4) 4000 ((kindsOf nodes kl).drop (0))) (R1 : Nat) (h1 : R1 = runF (fun x => x == 5) 4000 ((kindsOf nodes kl).drop (0 + R0))) (R2 : Nat) (h2 : R2 = runF (fun x => x == 6) 1 ((kindsOf nodes kl).drop (0 + R0 + R1))) (w : World)
  (hK : Kd.C (Kd.int .i64) w Ak kl.length kl) (hT : Kd.C k101 w At nodes.length nodes) (hck : kl.length ≤ ck) (hct : nodes.length ≤ ct) (hkl : kl.length ≤ 4000) (hnl : nodes.length ≤ 4000) (hin : ∀ x ∈ kl, 0 ≤ x ∧ x < nodes.length) :
  Calls Try.prog 70 #[.agg #[.slice At nodes.length ct, .int .i64 root], nodeV 3 n at_ tx Ak kl.length ck] w fun e w' => e = .returned (.bool (((R2 : Int) == 1) && (((0 + R0 + R1 + R2 : Nat) : Int) == (kl.length : Int)))) ∧ Below w.heap.size w w' := by
 have hmf : ∀ (fn : Fn) (first cap : Array Value) (w : World), (Instr.makeFunc fn first cap).run Try.prog w = .ok (.func fn first cap) w := fun _ _ _ _ => rfl
 have HKS := Lib.hid (KS.start (k := 3) (n := n) (at_ := at_) (tx := tx) (root := root) hK hT hck hct hkl hnl hin)
 have HR0 := Lib.hid h0
 have HR1 := Lib.hid h1
 have HR2 := Lib.hid h2
 clear hK hT hin h0 h1 h2
 unfold nodeV
 go_enter Try.func70, Try.ntmps70
 go_wp2_with fail
 obtain ⟨W0, hW0⟩ : ∃ W_, W_ = ((w.alloc (.cells #[.slice At nodes.length ct, .int .i64 root] 69)).alloc (.cells #[.int .i64 3, .int .i64 n, .int .i64 at_, .string tx, .slice Ak kl.length ck] 101)).alloc (.cells #[.int .i64 0] 3) := ⟨_, rfl⟩
 rw [← hW0] at HKS ⊢
 have S0 := HKS
 clear hW0 HKS
 refine (is_new 4 W0).mono ?_
 rintro e_ w_ ⟨rfl, rfl⟩
 go_wp2_with fail
 refine (take_is _ 4 4000 (by decide) (by decide) S0.out).mono ?_
 rintro e_ W1 ⟨R_, rfl, HR_, S1⟩
 obtain rfl : R0 = R_ := HR0.out.trans HR_.out.symm
 clear HR_ S0
 go_wp2_with fail
 refine (is_new 5 W1).mono ?_
 rintro e_ w_ ⟨rfl, rfl⟩
 go_wp2_with fail
 refine (take_is _ 5 4000 (by decide) (by decide) S1.out).mono ?_
 rintro e_ W2 ⟨R_, rfl, HR_, S2⟩
 obtain rfl : R1 = R_ := HR1.out.trans HR_.out.symm
 clear HR_ S1
 go_wp2_with fail
 refine (is_new 6 W2).mono ?_
 rintro e_ w_ ⟨rfl, rfl⟩
 go_wp2_with fail
 refine (take_is _ 6 1 (by decide) (by decide) S2.out).mono ?_
 rintro e_ W3 ⟨R_, rfl, HR_, S3⟩
 obtain rfl : R2 = R_ := HR2.out.trans HR_.out.symm
 clear HR_ S2
 by_cases hc2 : R2 = 1
 ·have q2 : ((R2 : Int) == 1) = true := by simp [hc2]
  go_wp2_with fail
  obtain ⟨iN, hiN⟩ : ∃ i_ : Nat, i_ = 0 + R0 + R1 + R2 := ⟨_, rfl⟩
  rw [← hiN] at S3
  have HIN := Lib.hid hiN
  clear hiN
  refine (end_st _ S3.out).mono ?_
  rintro e_ w_ ⟨rfl, rfl⟩
  go_wp2_with fail
  go_ret
  exact ⟨by rw [q2, ← HIN.out]; rfl, S3.out.2.2.1⟩
 ·have q2 : ((R2 : Int) == 1) = false := by simp; omega
  go_wp2_with fail
  go_ret
  exact ⟨by rw [q2]; rfl, S3.out.2.2.1⟩
set_option maxRecDepth 100000 in
set_option maxHeartbeats 16000000 in
theorem kids_15 (n at_ : Int) (tx : ByteArray) (Ak : Option Addr) (ck : Nat) (kl : List Int) (At : Option Addr) (ct : Nat) (nodes : List S101) (root : Int) (R0 : Nat) (h0 : R0 = runF exB 1 ((kindsOf nodes kl).drop (0))) (w : World)
  (hK : Kd.C (Kd.int .i64) w Ak kl.length kl) (hT : Kd.C k101 w At nodes.length nodes) (hck : kl.length ≤ ck) (hct : nodes.length ≤ ct) (hkl : kl.length ≤ 4000) (hnl : nodes.length ≤ 4000) (hin : ∀ x ∈ kl, 0 ≤ x ∧ x < nodes.length) :
  Calls Try.prog 70 #[.agg #[.slice At nodes.length ct, .int .i64 root], nodeV 15 n at_ tx Ak kl.length ck] w fun e w' => e = .returned (.bool (((R0 : Int) == 1) && (((0 + R0 : Nat) : Int) == (kl.length : Int)))) ∧ Below w.heap.size w w' := by
 have hmf : ∀ (fn : Fn) (first cap : Array Value) (w : World), (Instr.makeFunc fn first cap).run Try.prog w = .ok (.func fn first cap) w := fun _ _ _ _ => rfl
 have HKS := Lib.hid (KS.start (k := 15) (n := n) (at_ := at_) (tx := tx) (root := root) hK hT hck hct hkl hnl hin)
 have HR0 := Lib.hid h0
 clear hK hT hin h0
 unfold nodeV
 go_enter Try.func70, Try.ntmps70
 go_wp2_with fail
 obtain ⟨W0, hW0⟩ : ∃ W_, W_ = ((w.alloc (.cells #[.slice At nodes.length ct, .int .i64 root] 69)).alloc (.cells #[.int .i64 15, .int .i64 n, .int .i64 at_, .string tx, .slice Ak kl.length ck] 101)).alloc (.cells #[.int .i64 0] 3) := ⟨_, rfl⟩
 rw [← hW0] at HKS ⊢
 have S0 := HKS
 clear hW0 HKS
 refine (take_st46 _ 1 (by decide) (by decide) S0.out).mono ?_
 rintro e_ W1 ⟨R_, rfl, HR_, S1⟩
 obtain rfl : R0 = R_ := HR0.out.trans HR_.out.symm
 clear HR_ S0
 by_cases hc0 : R0 = 1
 ·have q0 : ((R0 : Int) == 1) = true := by simp [hc0]
  go_wp2_with fail
  obtain ⟨iN, hiN⟩ : ∃ i_ : Nat, i_ = 0 + R0 := ⟨_, rfl⟩
  rw [← hiN] at S1
  have HIN := Lib.hid hiN
  clear hiN
  refine (end_st _ S1.out).mono ?_
  rintro e_ w_ ⟨rfl, rfl⟩
  go_wp2_with fail
  go_ret
  exact ⟨by rw [q0, ← HIN.out]; rfl, S1.out.2.2.1⟩
 ·have q0 : ((R0 : Int) == 1) = false := by simp; omega
  go_wp2_with fail
  go_ret
  exact ⟨by rw [q0]; rfl, S1.out.2.2.1⟩
set_option maxRecDepth 100000 in
set_option maxHeartbeats 16000000 in
theorem kids_26 (n at_ : Int) (tx : ByteArray) (Ak : Option Addr) (ck : Nat) (kl : List Int) (At : Option Addr) (ct : Nat) (nodes : List S101) (root : Int) (R0 : Nat) (h0 : R0 = runF exB 1 ((kindsOf nodes kl).drop (0))) (w : World)
  (hK : Kd.C (Kd.int .i64) w Ak kl.length kl) (hT : Kd.C k101 w At nodes.length nodes) (hck : kl.length ≤ ck) (hct : nodes.length ≤ ct) (hkl : kl.length ≤ 4000) (hnl : nodes.length ≤ 4000) (hin : ∀ x ∈ kl, 0 ≤ x ∧ x < nodes.length) :
  Calls Try.prog 70 #[.agg #[.slice At nodes.length ct, .int .i64 root], nodeV 26 n at_ tx Ak kl.length ck] w fun e w' => e = .returned (.bool (((R0 : Int) == 1) && (((0 + R0 : Nat) : Int) == (kl.length : Int)))) ∧ Below w.heap.size w w' := by
 have hmf : ∀ (fn : Fn) (first cap : Array Value) (w : World), (Instr.makeFunc fn first cap).run Try.prog w = .ok (.func fn first cap) w := fun _ _ _ _ => rfl
 have HKS := Lib.hid (KS.start (k := 26) (n := n) (at_ := at_) (tx := tx) (root := root) hK hT hck hct hkl hnl hin)
 have HR0 := Lib.hid h0
 clear hK hT hin h0
 unfold nodeV
 go_enter Try.func70, Try.ntmps70
 go_wp2_with fail
 obtain ⟨W0, hW0⟩ : ∃ W_, W_ = ((w.alloc (.cells #[.slice At nodes.length ct, .int .i64 root] 69)).alloc (.cells #[.int .i64 26, .int .i64 n, .int .i64 at_, .string tx, .slice Ak kl.length ck] 101)).alloc (.cells #[.int .i64 0] 3) := ⟨_, rfl⟩
 rw [← hW0] at HKS ⊢
 have S0 := HKS
 clear hW0 HKS
 refine (take_st46 _ 1 (by decide) (by decide) S0.out).mono ?_
 rintro e_ W1 ⟨R_, rfl, HR_, S1⟩
 obtain rfl : R0 = R_ := HR0.out.trans HR_.out.symm
 clear HR_ S0
 by_cases hc0 : R0 = 1
 ·have q0 : ((R0 : Int) == 1) = true := by simp [hc0]
  go_wp2_with fail
  obtain ⟨iN, hiN⟩ : ∃ i_ : Nat, i_ = 0 + R0 := ⟨_, rfl⟩
  rw [← hiN] at S1
  have HIN := Lib.hid hiN
  clear hiN
  refine (end_st _ S1.out).mono ?_
  rintro e_ w_ ⟨rfl, rfl⟩
  go_wp2_with fail
  go_ret
  exact ⟨by rw [q0, ← HIN.out]; rfl, S1.out.2.2.1⟩
 ·have q0 : ((R0 : Int) == 1) = false := by simp; omega
  go_wp2_with fail
  go_ret
  exact ⟨by rw [q0]; rfl, S1.out.2.2.1⟩
set_option maxRecDepth 100000 in
set_option maxHeartbeats 16000000 in
theorem kids_9 (n at_ : Int) (tx : ByteArray) (Ak : Option Addr) (ck : Nat) (kl : List Int) (At : Option Addr) (ct : Nat) (nodes : List S101) (root : Int) (R0 : Nat) (h0 : R0 = runF (fun x => x == 18) 1 ((kindsOf nodes kl).drop (0))) (w : World)
  (hK : Kd.C (Kd.int .i64) w Ak kl.length kl) (hT : Kd.C k101 w At nodes.length nodes) (hck : kl.length ≤ ck) (hct : nodes.length ≤ ct) (hkl : kl.length ≤ 4000) (hnl : nodes.length ≤ 4000) (hin : ∀ x ∈ kl, 0 ≤ x ∧ x < nodes.length) :
  Calls Try.prog 70 #[.agg #[.slice At nodes.length ct, .int .i64 root], nodeV 9 n at_ tx Ak kl.length ck] w fun e w' => e = .returned (.bool (((R0 : Int) == 1) && (((0 + R0 : Nat) : Int) == (kl.length : Int)))) ∧ Below w.heap.size w w' := by
 have hmf : ∀ (fn : Fn) (first cap : Array Value) (w : World), (Instr.makeFunc fn first cap).run Try.prog w = .ok (.func fn first cap) w := fun _ _ _ _ => rfl
 have HKS := Lib.hid (KS.start (k := 9) (n := n) (at_ := at_) (tx := tx) (root := root) hK hT hck hct hkl hnl hin)
 have HR0 := Lib.hid h0
 clear hK hT hin h0
 unfold nodeV
 go_enter Try.func70, Try.ntmps70
 go_wp2_with fail
 obtain ⟨W0, hW0⟩ : ∃ W_, W_ = ((w.alloc (.cells #[.slice At nodes.length ct, .int .i64 root] 69)).alloc (.cells #[.int .i64 9, .int .i64 n, .int .i64 at_, .string tx, .slice Ak kl.length ck] 101)).alloc (.cells #[.int .i64 0] 3) := ⟨_, rfl⟩
 rw [← hW0] at HKS ⊢
 have S0 := HKS
 clear hW0 HKS
 refine (is_new 18 W0).mono ?_
 rintro e_ w_ ⟨rfl, rfl⟩
 go_wp2_with fail
 refine (take_is _ 18 1 (by decide) (by decide) S0.out).mono ?_
 rintro e_ W1 ⟨R_, rfl, HR_, S1⟩
 obtain rfl : R0 = R_ := HR0.out.trans HR_.out.symm
 clear HR_ S0
 by_cases hc0 : R0 = 1
 ·have q0 : ((R0 : Int) == 1) = true := by simp [hc0]
  go_wp2_with fail
  obtain ⟨iN, hiN⟩ : ∃ i_ : Nat, i_ = 0 + R0 := ⟨_, rfl⟩
  rw [← hiN] at S1
  have HIN := Lib.hid hiN
  clear hiN
  refine (end_st _ S1.out).mono ?_
  rintro e_ w_ ⟨rfl, rfl⟩
  go_wp2_with fail
  go_ret
  exact ⟨by rw [q0, ← HIN.out]; rfl, S1.out.2.2.1⟩
 ·have q0 : ((R0 : Int) == 1) = false := by simp; omega
  go_wp2_with fail
  go_ret
  exact ⟨by rw [q0]; rfl, S1.out.2.2.1⟩
set_option maxRecDepth 100000 in
set_option maxHeartbeats 16000000 in
theorem kids_12 (n at_ : Int) (tx : ByteArray) (Ak : Option Addr) (ck : Nat) (kl : List Int) (At : Option Addr) (ct : Nat) (nodes : List S101) (root : Int) (R0 : Nat) (h0 : R0 = runF exB 1 ((kindsOf nodes kl).drop (0))) (R1 : Nat) (h1 : R1 = runF (fun x => x == 6) 1 ((kindsOf nodes kl).drop (0 + R0))) (w : World)
  (hK : Kd.C (Kd.int .i64) w Ak kl.length kl) (hT : Kd.C k101 w At nodes.length nodes) (hck : kl.length ≤ ck) (hct : nodes.length ≤ ct) (hkl : kl.length ≤ 4000) (hnl : nodes.length ≤ 4000) (hin : ∀ x ∈ kl, 0 ≤ x ∧ x < nodes.length) :
  Calls Try.prog 70 #[.agg #[.slice At nodes.length ct, .int .i64 root], nodeV 12 n at_ tx Ak kl.length ck] w fun e w' => e = .returned (.bool (((R0 : Int) == 1) && ((R1 : Int) == 1) && (((0 + R0 + R1 : Nat) : Int) == (kl.length : Int)))) ∧ Below w.heap.size w w' := by
 have hmf : ∀ (fn : Fn) (first cap : Array Value) (w : World), (Instr.makeFunc fn first cap).run Try.prog w = .ok (.func fn first cap) w := fun _ _ _ _ => rfl
 have HKS := Lib.hid (KS.start (k := 12) (n := n) (at_ := at_) (tx := tx) (root := root) hK hT hck hct hkl hnl hin)
 have HR0 := Lib.hid h0
 have HR1 := Lib.hid h1
 clear hK hT hin h0 h1
 unfold nodeV
 go_enter Try.func70, Try.ntmps70
 go_wp2_with fail
 obtain ⟨W0, hW0⟩ : ∃ W_, W_ = ((w.alloc (.cells #[.slice At nodes.length ct, .int .i64 root] 69)).alloc (.cells #[.int .i64 12, .int .i64 n, .int .i64 at_, .string tx, .slice Ak kl.length ck] 101)).alloc (.cells #[.int .i64 0] 3) := ⟨_, rfl⟩
 rw [← hW0] at HKS ⊢
 have S0 := HKS
 clear hW0 HKS
 refine (take_st46 _ 1 (by decide) (by decide) S0.out).mono ?_
 rintro e_ W1 ⟨R_, rfl, HR_, S1⟩
 obtain rfl : R0 = R_ := HR0.out.trans HR_.out.symm
 clear HR_ S0
 by_cases hc0 : R0 = 1
 ·have q0 : ((R0 : Int) == 1) = true := by simp [hc0]
  go_wp2_with fail
  refine (is_new 6 W1).mono ?_
  rintro e_ w_ ⟨rfl, rfl⟩
  go_wp2_with fail
  refine (take_is _ 6 1 (by decide) (by decide) S1.out).mono ?_
  rintro e_ W2 ⟨R_, rfl, HR_, S2⟩
  obtain rfl : R1 = R_ := HR1.out.trans HR_.out.symm
  clear HR_ S1
  by_cases hc1 : R1 = 1
  ·have q1 : ((R1 : Int) == 1) = true := by simp [hc1]
   go_wp2_with fail
   obtain ⟨iN, hiN⟩ : ∃ i_ : Nat, i_ = 0 + R0 + R1 := ⟨_, rfl⟩
   rw [← hiN] at S2
   have HIN := Lib.hid hiN
   clear hiN
   refine (end_st _ S2.out).mono ?_
   rintro e_ w_ ⟨rfl, rfl⟩
   go_wp2_with fail
   go_ret
   exact ⟨by rw [q0, q1, ← HIN.out]; rfl, S2.out.2.2.1⟩
  ·have q1 : ((R1 : Int) == 1) = false := by simp; omega
   go_wp2_with fail
   go_ret
   exact ⟨by rw [q0, q1]; rfl, S2.out.2.2.1⟩
 ·have q0 : ((R0 : Int) == 1) = false := by simp; omega
  go_wp2_with fail
  go_ret
  exact ⟨by rw [q0]; rfl, S1.out.2.2.1⟩
set_option maxRecDepth 100000 in
set_option maxHeartbeats 16000000 in
theorem kids_16 (n at_ : Int) (tx : ByteArray) (Ak : Option Addr) (ck : Nat) (kl : List Int) (At : Option Addr) (ct : Nat) (nodes : List S101) (root : Int) (R0 : Nat) (h0 : R0 = runF (fun x => x == 6) 2 ((kindsOf nodes kl).drop (0))) (w : World)
  (hK : Kd.C (Kd.int .i64) w Ak kl.length kl) (hT : Kd.C k101 w At nodes.length nodes) (hck : kl.length ≤ ck) (hct : nodes.length ≤ ct) (hkl : kl.length ≤ 4000) (hnl : nodes.length ≤ 4000) (hin : ∀ x ∈ kl, 0 ≤ x ∧ x < nodes.length) :
  Calls Try.prog 70 #[.agg #[.slice At nodes.length ct, .int .i64 root], nodeV 16 n at_ tx Ak kl.length ck] w fun e w' => e = .returned (.bool (((R0 : Int) == 2) && (((0 + R0 : Nat) : Int) == (kl.length : Int)))) ∧ Below w.heap.size w w' := by
 have hmf : ∀ (fn : Fn) (first cap : Array Value) (w : World), (Instr.makeFunc fn first cap).run Try.prog w = .ok (.func fn first cap) w := fun _ _ _ _ => rfl
 have HKS := Lib.hid (KS.start (k := 16) (n := n) (at_ := at_) (tx := tx) (root := root) hK hT hck hct hkl hnl hin)
 have HR0 := Lib.hid h0
 clear hK hT hin h0
 unfold nodeV
 go_enter Try.func70, Try.ntmps70
 go_wp2_with fail
 obtain ⟨W0, hW0⟩ : ∃ W_, W_ = ((w.alloc (.cells #[.slice At nodes.length ct, .int .i64 root] 69)).alloc (.cells #[.int .i64 16, .int .i64 n, .int .i64 at_, .string tx, .slice Ak kl.length ck] 101)).alloc (.cells #[.int .i64 0] 3) := ⟨_, rfl⟩
 rw [← hW0] at HKS ⊢
 have S0 := HKS
 clear hW0 HKS
 refine (is_new 6 W0).mono ?_
 rintro e_ w_ ⟨rfl, rfl⟩
 go_wp2_with fail
 refine (take_is _ 6 2 (by decide) (by decide) S0.out).mono ?_
 rintro e_ W1 ⟨R_, rfl, HR_, S1⟩
 obtain rfl : R0 = R_ := HR0.out.trans HR_.out.symm
 clear HR_ S0
 by_cases hc0 : R0 = 2
 ·have q0 : ((R0 : Int) == 2) = true := by simp [hc0]
  go_wp2_with fail
  obtain ⟨iN, hiN⟩ : ∃ i_ : Nat, i_ = 0 + R0 := ⟨_, rfl⟩
  rw [← hiN] at S1
  have HIN := Lib.hid hiN
  clear hiN
  refine (end_st _ S1.out).mono ?_
  rintro e_ w_ ⟨rfl, rfl⟩
  go_wp2_with fail
  go_ret
  exact ⟨by rw [q0, ← HIN.out]; rfl, S1.out.2.2.1⟩
 ·have q0 : ((R0 : Int) == 2) = false := by simp; omega
  go_wp2_with fail
  go_ret
  exact ⟨by rw [q0]; rfl, S1.out.2.2.1⟩
set_option maxRecDepth 100000 in
set_option maxHeartbeats 16000000 in
theorem kids_5 (n at_ : Int) (tx : ByteArray) (Ak : Option Addr) (ck : Nat) (kl : List Int) (At : Option Addr) (ct : Nat) (nodes : List S101) (root : Int) (w : World)
  (hK : Kd.C (Kd.int .i64) w Ak kl.length kl) (hT : Kd.C k101 w At nodes.length nodes) (hck : kl.length ≤ ck) (hct : nodes.length ≤ ct) (hkl : kl.length ≤ 4000) (hnl : nodes.length ≤ 4000) (hin : ∀ x ∈ kl, 0 ≤ x ∧ x < nodes.length) :
  Calls Try.prog 70 #[.agg #[.slice At nodes.length ct, .int .i64 root], nodeV 5 n at_ tx Ak kl.length ck] w fun e w' => e = .returned (.bool ((((0 : Nat) : Int) == (kl.length : Int)))) ∧ Below w.heap.size w w' := by
 have hmf : ∀ (fn : Fn) (first cap : Array Value) (w : World), (Instr.makeFunc fn first cap).run Try.prog w = .ok (.func fn first cap) w := fun _ _ _ _ => rfl
 have HKS := Lib.hid (KS.start (k := 5) (n := n) (at_ := at_) (tx := tx) (root := root) hK hT hck hct hkl hnl hin)
 clear hK hT hin
 unfold nodeV
 go_enter Try.func70, Try.ntmps70
 go_wp2_with fail
 obtain ⟨W0, hW0⟩ : ∃ W_, W_ = ((w.alloc (.cells #[.slice At nodes.length ct, .int .i64 root] 69)).alloc (.cells #[.int .i64 5, .int .i64 n, .int .i64 at_, .string tx, .slice Ak kl.length ck] 101)).alloc (.cells #[.int .i64 0] 3) := ⟨_, rfl⟩
 rw [← hW0] at HKS ⊢
 have S0 := HKS
 clear hW0 HKS
 obtain ⟨iN, hiN⟩ : ∃ i_ : Nat, i_ = 0 := ⟨_, rfl⟩
 have S0_ : Hid (KS w 5 n at_ tx Ak ck kl At ct nodes root W0 iN) := Lib.hid (by rw [hiN]; exact S0.out)
 clear S0
 have S0 := S0_
 clear S0_
 have HIN := Lib.hid hiN
 clear hiN
 refine (end_st _ S0.out).mono ?_
 rintro e_ w_ ⟨rfl, rfl⟩
 go_wp2_with fail
 go_ret
 exact ⟨by rw [← HIN.out]; rfl, S0.out.2.2.1⟩
set_option maxRecDepth 100000 in
set_option maxHeartbeats 16000000 in
theorem kids_20 (n at_ : Int) (tx : ByteArray) (Ak : Option Addr) (ck : Nat) (kl : List Int) (At : Option Addr) (ct : Nat) (nodes : List S101) (root : Int) (w : World)
  (hK : Kd.C (Kd.int .i64) w Ak kl.length kl) (hT : Kd.C k101 w At nodes.length nodes) (hck : kl.length ≤ ck) (hct : nodes.length ≤ ct) (hkl : kl.length ≤ 4000) (hnl : nodes.length ≤ 4000) (hin : ∀ x ∈ kl, 0 ≤ x ∧ x < nodes.length) :
  Calls Try.prog 70 #[.agg #[.slice At nodes.length ct, .int .i64 root], nodeV 20 n at_ tx Ak kl.length ck] w fun e w' => e = .returned (.bool ((((0 : Nat) : Int) == (kl.length : Int)))) ∧ Below w.heap.size w w' := by
 have hmf : ∀ (fn : Fn) (first cap : Array Value) (w : World), (Instr.makeFunc fn first cap).run Try.prog w = .ok (.func fn first cap) w := fun _ _ _ _ => rfl
 have HKS := Lib.hid (KS.start (k := 20) (n := n) (at_ := at_) (tx := tx) (root := root) hK hT hck hct hkl hnl hin)
 clear hK hT hin
 unfold nodeV
 go_enter Try.func70, Try.ntmps70
 go_wp2_with fail
 obtain ⟨W0, hW0⟩ : ∃ W_, W_ = ((w.alloc (.cells #[.slice At nodes.length ct, .int .i64 root] 69)).alloc (.cells #[.int .i64 20, .int .i64 n, .int .i64 at_, .string tx, .slice Ak kl.length ck] 101)).alloc (.cells #[.int .i64 0] 3) := ⟨_, rfl⟩
 rw [← hW0] at HKS ⊢
 have S0 := HKS
 clear hW0 HKS
 obtain ⟨iN, hiN⟩ : ∃ i_ : Nat, i_ = 0 := ⟨_, rfl⟩
 have S0_ : Hid (KS w 20 n at_ tx Ak ck kl At ct nodes root W0 iN) := Lib.hid (by rw [hiN]; exact S0.out)
 clear S0
 have S0 := S0_
 clear S0_
 have HIN := Lib.hid hiN
 clear hiN
 refine (end_st _ S0.out).mono ?_
 rintro e_ w_ ⟨rfl, rfl⟩
 go_wp2_with fail
 go_ret
 exact ⟨by rw [← HIN.out]; rfl, S0.out.2.2.1⟩
set_option maxRecDepth 100000 in
set_option maxHeartbeats 16000000 in
theorem kids_24 (n at_ : Int) (tx : ByteArray) (Ak : Option Addr) (ck : Nat) (kl : List Int) (At : Option Addr) (ct : Nat) (nodes : List S101) (root : Int) (w : World)
  (hK : Kd.C (Kd.int .i64) w Ak kl.length kl) (hT : Kd.C k101 w At nodes.length nodes) (hck : kl.length ≤ ck) (hct : nodes.length ≤ ct) (hkl : kl.length ≤ 4000) (hnl : nodes.length ≤ 4000) (hin : ∀ x ∈ kl, 0 ≤ x ∧ x < nodes.length) :
  Calls Try.prog 70 #[.agg #[.slice At nodes.length ct, .int .i64 root], nodeV 24 n at_ tx Ak kl.length ck] w fun e w' => e = .returned (.bool ((((0 : Nat) : Int) == (kl.length : Int)))) ∧ Below w.heap.size w w' := by
 have hmf : ∀ (fn : Fn) (first cap : Array Value) (w : World), (Instr.makeFunc fn first cap).run Try.prog w = .ok (.func fn first cap) w := fun _ _ _ _ => rfl
 have HKS := Lib.hid (KS.start (k := 24) (n := n) (at_ := at_) (tx := tx) (root := root) hK hT hck hct hkl hnl hin)
 clear hK hT hin
 unfold nodeV
 go_enter Try.func70, Try.ntmps70
 go_wp2_with fail
 obtain ⟨W0, hW0⟩ : ∃ W_, W_ = ((w.alloc (.cells #[.slice At nodes.length ct, .int .i64 root] 69)).alloc (.cells #[.int .i64 24, .int .i64 n, .int .i64 at_, .string tx, .slice Ak kl.length ck] 101)).alloc (.cells #[.int .i64 0] 3) := ⟨_, rfl⟩
 rw [← hW0] at HKS ⊢
 have S0 := HKS
 clear hW0 HKS
 obtain ⟨iN, hiN⟩ : ∃ i_ : Nat, i_ = 0 := ⟨_, rfl⟩
 have S0_ : Hid (KS w 24 n at_ tx Ak ck kl At ct nodes root W0 iN) := Lib.hid (by rw [hiN]; exact S0.out)
 clear S0
 have S0 := S0_
 clear S0_
 have HIN := Lib.hid hiN
 clear hiN
 refine (end_st _ S0.out).mono ?_
 rintro e_ w_ ⟨rfl, rfl⟩
 go_wp2_with fail
 go_ret
 exact ⟨by rw [← HIN.out]; rfl, S0.out.2.2.1⟩
end Go.Proofs.Ytkhlfdcjgooogaa.P
