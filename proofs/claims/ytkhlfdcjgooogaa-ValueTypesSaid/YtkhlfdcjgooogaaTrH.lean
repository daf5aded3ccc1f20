import Derived.Test.YtkhlfdcjgooogaaTrE
import Derived.Test.YtkhlfdcjgooogaaTrB
set_option linter.unusedVariables false
set_option linter.unusedSimpArgs false
namespace Go.Proofs.Ytkhlfdcjgooogaa.P
open Go.RowKit Go.Proofs.YtkhlfdcjgooogaaW.PrintWords Go.Proofs.YtkhlfdcjgooogaaW.PrintLast Go.Proofs.YtkhlfdcjgooogaaW.PrintMore
set_option maxRecDepth 100000 in
set_option maxHeartbeats 16000000 in
theorem kids_6 (n at_ : Int) (tx : ByteArray) (Ak : Option Addr) (ck : Nat) (kl : List Int) (At : Option Addr) (ct : Nat) (nodes : List S101) (root : Int) (R0 : Nat) (h0 : R0 = runF stB 4000 ((kindsOf nodes kl).drop (0))) (w : World)
  (hK : Kd.C (Kd.int .i64) w Ak kl.length kl) (hT : Kd.C k101 w At nodes.length nodes) (hck : kl.length ≤ ck) (hct : nodes.length ≤ ct) (hkl : kl.length ≤ 4000) (hnl : nodes.length ≤ 4000) (hin : ∀ x ∈ kl, 0 ≤ x ∧ x < nodes.length) :
  Calls Try.prog 70 #[.agg #[.slice At nodes.length ct, .int .i64 root], nodeV 6 n at_ tx Ak kl.length ck] w fun e w' => e = .returned (.bool ((((0 + R0 : Nat) : Int) == (kl.length : Int)))) ∧ Below w.heap.size w w' := by
 have hmf : ∀ (fn : Fn) (first cap : Array Value) (w : World), (Instr.makeFunc fn first cap).run Try.prog w = .ok (.func fn first cap) w := fun _ _ _ _ => rfl
 have HKS := Lib.hid (KS.start (k := 6) (n := n) (at_ := at_) (tx := tx) (root := root) hK hT hck hct hkl hnl hin)
 have HR0 := Lib.hid h0
 clear hK hT hin h0
 unfold nodeV
 go_enter Try.func70, Try.ntmps70
 go_wp2_with fail
 obtain ⟨W0, hW0⟩ : ∃ W_, W_ = ((w.alloc (.cells #[.slice At nodes.length ct, .int .i64 root] 69)).alloc (.cells #[.int .i64 6, .int .i64 n, .int .i64 at_, .string tx, .slice Ak kl.length ck] 101)).alloc (.cells #[.int .i64 0] 3) := ⟨_, rfl⟩
 rw [← hW0] at HKS ⊢
 have S0 := HKS
 clear hW0 HKS
 refine (take_st45 _ 4000 (by decide) (by decide) S0.out).mono ?_
 rintro e_ W1 ⟨R_, rfl, HR_, S1⟩
 obtain rfl : R0 = R_ := HR0.out.trans HR_.out.symm
 clear HR_ S0
 go_wp2_with fail
 obtain ⟨iN, hiN⟩ : ∃ i_ : Nat, i_ = 0 + R0 := ⟨_, rfl⟩
 rw [← hiN] at S1
 have HIN := Lib.hid hiN
 clear hiN
 refine (end_st _ S1.out).mono ?_
 rintro e_ w_ ⟨rfl, rfl⟩
 go_wp2_with fail
 go_ret
 exact ⟨by rw [← HIN.out]; rfl, S1.out.2.2.1⟩
set_option maxRecDepth 100000 in
set_option maxHeartbeats 16000000 in
theorem kids_17 (n at_ : Int) (tx : ByteArray) (Ak : Option Addr) (ck : Nat) (kl : List Int) (At : Option Addr) (ct : Nat) (nodes : List S101) (root : Int) (R0 : Nat) (h0 : R0 = runF exB 1 ((kindsOf nodes kl).drop (0))) (w : World)
  (hK : Kd.C (Kd.int .i64) w Ak kl.length kl) (hT : Kd.C k101 w At nodes.length nodes) (hck : kl.length ≤ ck) (hct : nodes.length ≤ ct) (hkl : kl.length ≤ 4000) (hnl : nodes.length ≤ 4000) (hin : ∀ x ∈ kl, 0 ≤ x ∧ x < nodes.length) :
  Calls Try.prog 70 #[.agg #[.slice At nodes.length ct, .int .i64 root], nodeV 17 n at_ tx Ak kl.length ck] w fun e w' => e = .returned (.bool (((R0 : Int) == 1) && (((0 + R0 : Nat) : Int) == (kl.length : Int)))) ∧ Below w.heap.size w w' := by
 have hmf : ∀ (fn : Fn) (first cap : Array Value) (w : World), (Instr.makeFunc fn first cap).run Try.prog w = .ok (.func fn first cap) w := fun _ _ _ _ => rfl
 have HKS := Lib.hid (KS.start (k := 17) (n := n) (at_ := at_) (tx := tx) (root := root) hK hT hck hct hkl hnl hin)
 have HR0 := Lib.hid h0
 clear hK hT hin h0
 unfold nodeV
 go_enter Try.func70, Try.ntmps70
 go_wp2_with fail
 obtain ⟨W0, hW0⟩ : ∃ W_, W_ = ((w.alloc (.cells #[.slice At nodes.length ct, .int .i64 root] 69)).alloc (.cells #[.int .i64 17, .int .i64 n, .int .i64 at_, .string tx, .slice Ak kl.length ck] 101)).alloc (.cells #[.int .i64 0] 3) := ⟨_, rfl⟩
 rw [← hW0] at HKS ⊢
 have S0 := HKS
 clear hW0 HKS
 refine (take_st46 _ 1 (by decide) (by decide) S0.out).mono ?_
 rintro e_ W1 ⟨R_, rfl, HR_, S1⟩
 obtain rfl : R0 = R_ := HR0.out.trans HR_.out.symm
 clear HR_ S0
 by_cases hc0 : R0 = 1
 ·have q0 : ((R0 : Int) == 1) = true := by simp [hc0]
  go_wp2_with fail
  obtain ⟨iN, hiN⟩ : ∃ i_ : Nat, i_ = 0 + R0 := ⟨_, rfl⟩
  rw [← hiN] at S1
  have HIN := Lib.hid hiN
  clear hiN
  refine (end_st _ S1.out).mono ?_
  rintro e_ w_ ⟨rfl, rfl⟩
  go_wp2_with fail
  go_ret
  exact ⟨by rw [q0, ← HIN.out]; rfl, S1.out.2.2.1⟩
 ·have q0 : ((R0 : Int) == 1) = false := by simp; omega
  go_wp2_with fail
  go_ret
  exact ⟨by rw [q0]; rfl, S1.out.2.2.1⟩
set_option maxRecDepth 100000 in
set_option maxHeartbeats 16000000 in
theorem kids_8 (n at_ : Int) (tx : ByteArray) (Ak : Option Addr) (ck : Nat) (kl : List Int) (At : Option Addr) (ct : Nat) (nodes : List S101) (root : Int) (R0 : Nat) (h0 : R0 = runF exB 2 ((kindsOf nodes kl).drop (0))) (w : World)
  (hK : Kd.C (Kd.int .i64) w Ak kl.length kl) (hT : Kd.C k101 w At nodes.length nodes) (hck : kl.length ≤ ck) (hct : nodes.length ≤ ct) (hkl : kl.length ≤ 4000) (hnl : nodes.length ≤ 4000) (hin : ∀ x ∈ kl, 0 ≤ x ∧ x < nodes.length) :
  Calls Try.prog 70 #[.agg #[.slice At nodes.length ct, .int .i64 root], nodeV 8 n at_ tx Ak kl.length ck] w fun e w' => e = .returned (.bool (((R0 : Int) == 2) && (((0 + R0 : Nat) : Int) == (kl.length : Int)))) ∧ Below w.heap.size w w' := by
 have hmf : ∀ (fn : Fn) (first cap : Array Value) (w : World), (Instr.makeFunc fn first cap).run Try.prog w = .ok (.func fn first cap) w := fun _ _ _ _ => rfl
 have HKS := Lib.hid (KS.start (k := 8) (n := n) (at_ := at_) (tx := tx) (root := root) hK hT hck hct hkl hnl hin)
 have HR0 := Lib.hid h0
 clear hK hT hin h0
 unfold nodeV
 go_enter Try.func70, Try.ntmps70
 go_wp2_with fail
 obtain ⟨W0, hW0⟩ : ∃ W_, W_ = ((w.alloc (.cells #[.slice At nodes.length ct, .int .i64 root] 69)).alloc (.cells #[.int .i64 8, .int .i64 n, .int .i64 at_, .string tx, .slice Ak kl.length ck] 101)).alloc (.cells #[.int .i64 0] 3) := ⟨_, rfl⟩
 rw [← hW0] at HKS ⊢
 have S0 := HKS
 clear hW0 HKS
 refine (take_st46 _ 2 (by decide) (by decide) S0.out).mono ?_
 rintro e_ W1 ⟨R_, rfl, HR_, S1⟩
 obtain rfl : R0 = R_ := HR0.out.trans HR_.out.symm
 clear HR_ S0
 by_cases hc0 : R0 = 2
 ·have q0 : ((R0 : Int) == 2) = true := by simp [hc0]
  go_wp2_with fail
  obtain ⟨iN, hiN⟩ : ∃ i_ : Nat, i_ = 0 + R0 := ⟨_, rfl⟩
  rw [← hiN] at S1
  have HIN := Lib.hid hiN
  clear hiN
  refine (end_st _ S1.out).mono ?_
  rintro e_ w_ ⟨rfl, rfl⟩
  go_wp2_with fail
  go_ret
  exact ⟨by rw [q0, ← HIN.out]; rfl, S1.out.2.2.1⟩
 ·have q0 : ((R0 : Int) == 2) = false := by simp; omega
  go_wp2_with fail
  go_ret
  exact ⟨by rw [q0]; rfl, S1.out.2.2.1⟩
set_option maxRecDepth 100000 in
set_option maxHeartbeats 16000000 in
theorem kids_10 (n at_ : Int) (tx : ByteArray) (Ak : Option Addr) (ck : Nat) (kl : List Int) (At : Option Addr) (ct : Nat) (nodes : List S101) (root : Int) (R0 : Nat) (h0 : R0 = runF (fun x => x == 18) 1 ((kindsOf nodes kl).drop (0))) (R1 : Nat) (h1 : R1 = runF exB 1 ((kindsOf nodes kl).drop (0 + R0))) (w : World)
  (hK : Kd.C (Kd.int .i64) w Ak kl.length kl) (hT : Kd.C k101 w At nodes.length nodes) (hck : kl.length ≤ ck) (hct : nodes.length ≤ ct) (hkl : kl.length ≤ 4000) (hnl : nodes.length ≤ 4000) (hin : ∀ x ∈ kl, 0 ≤ x ∧ x < nodes.length) :
  Calls Try.prog 70 #[.agg #[.slice At nodes.length ct, .int .i64 root], nodeV 10 n at_ tx Ak kl.length ck] w fun e w' => e = .returned (.bool (((R0 : Int) == 1) && ((R1 : Int) == 1) && (((0 + R0 + R1 : Nat) : Int) == (kl.length : Int)))) ∧ Below w.heap.size w w' := by
 have hmf : ∀ (fn : Fn) (first cap : Array Value) (w : World), (Instr.makeFunc fn first cap).run Try.prog w = .ok (.func fn first cap) w := fun _ _ _ _ => rfl
 have HKS := Lib.hid (KS.start (k := 10) (n := n) (at_ := at_) (tx := tx) (root := root) hK hT hck hct hkl hnl hin)
 have HR0 := Lib.hid h0
 have HR1 := Lib.hid h1
 clear hK hT hin h0 h1
 unfold nodeV
 go_enter Try.func70, Try.ntmps70
 go_wp2_with fail
 obtain ⟨W0, hW0⟩ : ∃ W_, W_ = ((w.alloc (.cells #[.slice At nodes.length ct, .int .i64 root] 69)).alloc (.cells #[.int .i64 10, .int .i64 n, .int .i64 at_, .string tx, .slice Ak kl.length ck] 101)).alloc (.cells #[.int .i64 0] 3) := ⟨_, rfl⟩
 rw [← hW0] at HKS ⊢
 have S0 := HKS
 clear hW0 HKS
 refine (is_new 18 W0).mono ?_
 rintro e_ w_ ⟨rfl, rfl⟩
 go_wp2_with fail
 refine (take_is _ 18 1 (by decide) (by decide) S0.out).mono ?_
 rintro e_ W1 ⟨R_, rfl, HR_, S1⟩
 obtain rfl : R0 = R_ := HR0.out.trans HR_.out.symm
 clear HR_ S0
 by_cases hc0 : R0 = 1
 ·have q0 : ((R0 : Int) == 1) = true := by simp [hc0]
  go_wp2_with fail
  refine (take_st46 _ 1 (by decide) (by decide) S1.out).mono ?_
  rintro e_ W2 ⟨R_, rfl, HR_, S2⟩
  obtain rfl : R1 = R_ := HR1.out.trans HR_.out.symm
  clear HR_ S1
  by_cases hc1 : R1 = 1
  ·have q1 : ((R1 : Int) == 1) = true := by simp [hc1]
   go_wp2_with fail
   obtain ⟨iN, hiN⟩ : ∃ i_ : Nat, i_ = 0 + R0 + R1 := ⟨_, rfl⟩
   rw [← hiN] at S2
   have HIN := Lib.hid hiN
   clear hiN
   refine (end_st _ S2.out).mono ?_
   rintro e_ w_ ⟨rfl, rfl⟩
   go_wp2_with fail
   go_ret
   exact ⟨by rw [q0, q1, ← HIN.out]; rfl, S2.out.2.2.1⟩
  ·have q1 : ((R1 : Int) == 1) = false := by simp; omega
   go_wp2_with fail
   go_ret
   exact ⟨by rw [q0, q1]; rfl, S2.out.2.2.1⟩
 ·have q0 : ((R0 : Int) == 1) = false := by simp; omega
  go_wp2_with fail
  go_ret
  exact ⟨by rw [q0]; rfl, S1.out.2.2.1⟩
set_option maxRecDepth 100000 in
set_option maxHeartbeats 16000000 in
theorem kids_13 (n at_ : Int) (tx : ByteArray) (Ak : Option Addr) (ck : Nat) (kl : List Int) (At : Option Addr) (ct : Nat) (nodes : List S101) (root : Int) (R0 : Nat) (h0 : R0 = runF (fun x => x == 19) 1 ((kindsOf nodes kl).drop (0))) (R1 : Nat) (h1 : R1 = runF exB 4000 ((kindsOf nodes kl).drop (0 + R0))) (w : World)
  (hK : Kd.C (Kd.int .i64) w Ak kl.length kl) (hT : Kd.C k101 w At nodes.length nodes) (hck : kl.length ≤ ck) (hct : nodes.length ≤ ct) (hkl : kl.length ≤ 4000) (hnl : nodes.length ≤ 4000) (hin : ∀ x ∈ kl, 0 ≤ x ∧ x < nodes.length) :
  Calls Try.prog 70 #[.agg #[.slice At nodes.length ct, .int .i64 root], nodeV 13 n at_ tx Ak kl.length ck] w fun e w' => e = .returned (.bool (((R0 : Int) == 1) && (((0 + R0 + R1 : Nat) : Int) == (kl.length : Int)))) ∧ Below w.heap.size w w' := by
 have hmf : ∀ (fn : Fn) (first cap : Array Value) (w : World), (Instr.makeFunc fn first cap).run Try.prog w = .ok (.func fn first cap) w := fun _ _ _ _ => rfl
 have HKS := Lib.hid (KS.start (k := 13) (n := n) (at_ := at_) (tx := tx) (root := root) hK hT hck hct hkl hnl hin)
 have HR0 := Lib.hid h0
 have HR1 := Lib.hid h1
 clear hK hT hin h0 h1
 unfold nodeV
 go_enter Try.func70, Try.ntmps70
 go_wp2_with fail
 obtain ⟨W0, hW0⟩ : ∃ W_, W_ = ((w.alloc (.cells #[.slice At nodes.length ct, .int .i64 root] 69)).alloc (.cells #[.int .i64 13, .int .i64 n, .int .i64 at_, .string tx, .slice Ak kl.length ck] 101)).alloc (.cells #[.int .i64 0] 3) := ⟨_, rfl⟩
 rw [← hW0] at HKS ⊢
 have S0 := HKS
 clear hW0 HKS
 refine (is_new 19 W0).mono ?_
 rintro e_ w_ ⟨rfl, rfl⟩
 go_wp2_with fail
 refine (take_is _ 19 1 (by decide) (by decide) S0.out).mono ?_
 rintro e_ W1 ⟨R_, rfl, HR_, S1⟩
 obtain rfl : R0 = R_ := HR0.out.trans HR_.out.symm
 clear HR_ S0
 go_wp2_with fail
 refine (take_st46 _ 4000 (by decide) (by decide) S1.out).mono ?_
 rintro e_ W2 ⟨R_, rfl, HR_, S2⟩
 obtain rfl : R1 = R_ := HR1.out.trans HR_.out.symm
 clear HR_ S1
 obtain ⟨iN, hiN⟩ : ∃ i_ : Nat, i_ = 0 + R0 + R1 := ⟨_, rfl⟩
 rw [← hiN] at S2
 have HIN := Lib.hid hiN
 clear hiN
 by_cases hl : R0 = 1
 ·have ql : ((R0 : Int) == 1) = true := by simp [hl]
  go_wp2_with fail
  refine (end_st _ S2.out).mono ?_
  rintro e_ w_ ⟨rfl, rfl⟩
  go_wp2_with fail
  go_ret
  exact ⟨by rw [ql, Bool.true_and, ← HIN.out]; rfl, S2.out.2.2.1⟩
 ·have ql : ((R0 : Int) == 1) = false := by simp; omega
  go_wp2_with fail
  go_ret
  exact ⟨by rw [ql, Bool.false_and]; rfl, S2.out.2.2.1⟩
set_option maxRecDepth 100000 in
set_option maxHeartbeats 16000000 in
theorem kids_2 (n at_ : Int) (tx : ByteArray) (Ak : Option Addr) (ck : Nat) (kl : List Int) (At : Option Addr) (ct : Nat) (nodes : List S101) (root : Int) (w : World)
  (hK : Kd.C (Kd.int .i64) w Ak kl.length kl) (hT : Kd.C k101 w At nodes.length nodes) (hck : kl.length ≤ ck) (hct : nodes.length ≤ ct) (hkl : kl.length ≤ 4000) (hnl : nodes.length ≤ 4000) (hin : ∀ x ∈ kl, 0 ≤ x ∧ x < nodes.length) :
  Calls Try.prog 70 #[.agg #[.slice At nodes.length ct, .int .i64 root], nodeV 2 n at_ tx Ak kl.length ck] w fun e w' => e = .returned (.bool ((((0 : Nat) : Int) == (kl.length : Int)))) ∧ Below w.heap.size w w' := by
 have hmf : ∀ (fn : Fn) (first cap : Array Value) (w : World), (Instr.makeFunc fn first cap).run Try.prog w = .ok (.func fn first cap) w := fun _ _ _ _ => rfl
 have HKS := Lib.hid (KS.start (k := 2) (n := n) (at_ := at_) (tx := tx) (root := root) hK hT hck hct hkl hnl hin)
 clear hK hT hin
 unfold nodeV
 go_enter Try.func70, Try.ntmps70
 go_wp2_with fail
 obtain ⟨W0, hW0⟩ : ∃ W_, W_ = ((w.alloc (.cells #[.slice At nodes.length ct, .int .i64 root] 69)).alloc (.cells #[.int .i64 2, .int .i64 n, .int .i64 at_, .string tx, .slice Ak kl.length ck] 101)).alloc (.cells #[.int .i64 0] 3) := ⟨_, rfl⟩
 rw [← hW0] at HKS ⊢
 have S0 := HKS
 clear hW0 HKS
 obtain ⟨iN, hiN⟩ : ∃ i_ : Nat, i_ = 0 := ⟨_, rfl⟩
 have S0_ : Hid (KS w 2 n at_ tx Ak ck kl At ct nodes root W0 iN) := Lib.hid (by rw [hiN]; exact S0.out)
 clear S0
 have S0 := S0_
 clear S0_
 have HIN := Lib.hid hiN
 clear hiN
 refine (end_st _ S0.out).mono ?_
 rintro e_ w_ ⟨rfl, rfl⟩
 go_wp2_with fail
 go_ret
 exact ⟨by rw [← HIN.out]; rfl, S0.out.2.2.1⟩
set_option maxRecDepth 100000 in
set_option maxHeartbeats 16000000 in
theorem kids_18 (n at_ : Int) (tx : ByteArray) (Ak : Option Addr) (ck : Nat) (kl : List Int) (At : Option Addr) (ct : Nat) (nodes : List S101) (root : Int) (w : World)
  (hK : Kd.C (Kd.int .i64) w Ak kl.length kl) (hT : Kd.C k101 w At nodes.length nodes) (hck : kl.length ≤ ck) (hct : nodes.length ≤ ct) (hkl : kl.length ≤ 4000) (hnl : nodes.length ≤ 4000) (hin : ∀ x ∈ kl, 0 ≤ x ∧ x < nodes.length) :
  Calls Try.prog 70 #[.agg #[.slice At nodes.length ct, .int .i64 root], nodeV 18 n at_ tx Ak kl.length ck] w fun e w' => e = .returned (.bool ((((0 : Nat) : Int) == (kl.length : Int)))) ∧ Below w.heap.size w w' := by
 have hmf : ∀ (fn : Fn) (first cap : Array Value) (w : World), (Instr.makeFunc fn first cap).run Try.prog w = .ok (.func fn first cap) w := fun _ _ _ _ => rfl
 have HKS := Lib.hid (KS.start (k := 18) (n := n) (at_ := at_) (tx := tx) (root := root) hK hT hck hct hkl hnl hin)
 clear hK hT hin
 unfold nodeV
 go_enter Try.func70, Try.ntmps70
 go_wp2_with fail
 obtain ⟨W0, hW0⟩ : ∃ W_, W_ = ((w.alloc (.cells #[.slice At nodes.length ct, .int .i64 root] 69)).alloc (.cells #[.int .i64 18, .int .i64 n, .int .i64 at_, .string tx, .slice Ak kl.length ck] 101)).alloc (.cells #[.int .i64 0] 3) := ⟨_, rfl⟩
 rw [← hW0] at HKS ⊢
 have S0 := HKS
 clear hW0 HKS
 obtain ⟨iN, hiN⟩ : ∃ i_ : Nat, i_ = 0 := ⟨_, rfl⟩
 have S0_ : Hid (KS w 18 n at_ tx Ak ck kl At ct nodes root W0 iN) := Lib.hid (by rw [hiN]; exact S0.out)
 clear S0
 have S0 := S0_
 clear S0_
 have HIN := Lib.hid hiN
 clear hiN
 refine (end_st _ S0.out).mono ?_
 rintro e_ w_ ⟨rfl, rfl⟩
 go_wp2_with fail
 go_ret
 exact ⟨by rw [← HIN.out]; rfl, S0.out.2.2.1⟩
set_option maxRecDepth 100000 in
set_option maxHeartbeats 16000000 in
theorem kids_21 (n at_ : Int) (tx : ByteArray) (Ak : Option Addr) (ck : Nat) (kl : List Int) (At : Option Addr) (ct : Nat) (nodes : List S101) (root : Int) (w : World)
  (hK : Kd.C (Kd.int .i64) w Ak kl.length kl) (hT : Kd.C k101 w At nodes.length nodes) (hck : kl.length ≤ ck) (hct : nodes.length ≤ ct) (hkl : kl.length ≤ 4000) (hnl : nodes.length ≤ 4000) (hin : ∀ x ∈ kl, 0 ≤ x ∧ x < nodes.length) :
  Calls Try.prog 70 #[.agg #[.slice At nodes.length ct, .int .i64 root], nodeV 21 n at_ tx Ak kl.length ck] w fun e w' => e = .returned (.bool ((((0 : Nat) : Int) == (kl.length : Int)))) ∧ Below w.heap.size w w' := by
 have hmf : ∀ (fn : Fn) (first cap : Array Value) (w : World), (Instr.makeFunc fn first cap).run Try.prog w = .ok (.func fn first cap) w := fun _ _ _ _ => rfl
 have HKS := Lib.hid (KS.start (k := 21) (n := n) (at_ := at_) (tx := tx) (root := root) hK hT hck hct hkl hnl hin)
 clear hK hT hin
 unfold nodeV
 go_enter Try.func70, Try.ntmps70
 go_wp2_with fail
 obtain ⟨W0, hW0⟩ : ∃ W_, W_ = ((w.alloc (.cells #[.slice At nodes.length ct, .int .i64 root] 69)).alloc (.cells #[.int .i64 21, .int .i64 n, .int .i64 at_, .string tx, .slice Ak kl.length ck] 101)).alloc (.cells #[.int .i64 0] 3) := ⟨_, rfl⟩
 rw [← hW0] at HKS ⊢
 have S0 := HKS
 clear hW0 HKS
 obtain ⟨iN, hiN⟩ : ∃ i_ : Nat, i_ = 0 := ⟨_, rfl⟩
 have S0_ : Hid (KS w 21 n at_ tx Ak ck kl At ct nodes root W0 iN) := Lib.hid (by rw [hiN]; exact S0.out)
 clear S0
 have S0 := S0_
 clear S0_
 have HIN := Lib.hid hiN
 clear hiN
 refine (end_st _ S0.out).mono ?_
 rintro e_ w_ ⟨rfl, rfl⟩
 go_wp2_with fail
 go_ret
 exact ⟨by rw [← HIN.out]; rfl, S0.out.2.2.1⟩
set_option maxRecDepth 100000 in
set_option maxHeartbeats 16000000 in
theorem kids_25 (n at_ : Int) (tx : ByteArray) (Ak : Option Addr) (ck : Nat) (kl : List Int) (At : Option Addr) (ct : Nat) (nodes : List S101) (root : Int) (w : World)
  (hK : Kd.C (Kd.int .i64) w Ak kl.length kl) (hT : Kd.C k101 w At nodes.length nodes) (hck : kl.length ≤ ck) (hct : nodes.length ≤ ct) (hkl : kl.length ≤ 4000) (hnl : nodes.length ≤ 4000) (hin : ∀ x ∈ kl, 0 ≤ x ∧ x < nodes.length) :
  Calls Try.prog 70 #[.agg #[.slice At nodes.length ct, .int .i64 root], nodeV 25 n at_ tx Ak kl.length ck] w fun e w' => e = .returned (.bool ((((0 : Nat) : Int) == (kl.length : Int)))) ∧ Below w.heap.size w w' := by
 have hmf : ∀ (fn : Fn) (first cap : Array Value) (w : World), (Instr.makeFunc fn first cap).run Try.prog w = .ok (.func fn first cap) w := fun _ _ _ _ => rfl
 have HKS := Lib.hid (KS.start (k := 25) (n := n) (at_ := at_) (tx := tx) (root := root) hK hT hck hct hkl hnl hin)
 clear hK hT hin
 unfold nodeV
 go_enter Try.func70, Try.ntmps70
 go_wp2_with fail
 obtain ⟨W0, hW0⟩ : ∃ W_, W_ = ((w.alloc (.cells #[.slice At nodes.length ct, .int .i64 root] 69)).alloc (.cells #[.int .i64 25, .int .i64 n, .int .i64 at_, .string tx, .slice Ak kl.length ck] 101)).alloc (.cells #[.int .i64 0] 3) := ⟨_, rfl⟩
 rw [← hW0] at HKS ⊢
 have S0 := HKS
 clear hW0 HKS
 obtain ⟨iN, hiN⟩ : ∃ i_ : Nat, i_ = 0 := ⟨_, rfl⟩
 have S0_ : Hid (KS w 25 n at_ tx Ak ck kl At ct nodes root W0 iN) := Lib.hid (by rw [hiN]; exact S0.out)
 clear S0
 have S0 := S0_
 clear S0_
 have HIN := Lib.hid hiN
 clear hiN
 refine (end_st _ S0.out).mono ?_
 rintro e_ w_ ⟨rfl, rfl⟩
 go_wp2_with fail
 go_ret
 exact ⟨by rw [← HIN.out]; rfl, S0.out.2.2.1⟩
attribute [local go_sem] max2_int min2_int max_two min_two max_three min_three max_four min_four
def tree_number.j0 : Nat → Int → Bool → Int → Int → Int → ByteArray → List Int → Option (Bool)
 | 0, _, _, _, _, _, _, _ => none
 | k + 1, x4, x5, x196000, x196001, x196002, x196003, x196004 => if x5 = true then (if x196001 ≥ 1 then (some (decide (x196001 ≤ 4))) else (some false)) else (if x4 = 3 then (if x196001 ≥ 0 then (some (decide (x196001 ≤ 4))) else (some false)) else (if x4 = 20 then (some (decide (x196001 ≥ 0))) else (if x4 = 21 then (if x196001 = 0 then (some true) else (some (x196001 == 1))) else (some (x196001 == 0)))))
def tree_number.f (k : Nat) (a0_0 : Int) (a0_1 : Int) (a0_2 : Int) (a0_3 : ByteArray) (l0_4 : List Int) : Option (Bool) := if a0_0 = 2 then (tree_number.j0 k a0_0 (a0_0 == 2) a0_0 a0_1 a0_2 a0_3 l0_4) else (if a0_0 = 4 then (tree_number.j0 k a0_0 (a0_0 == 4) a0_0 a0_1 a0_2 a0_3 l0_4) else (tree_number.j0 k a0_0 (a0_0 == 5) a0_0 a0_1 a0_2 a0_3 l0_4))
set_option maxHeartbeats 8000000 in
set_option maxRecDepth 100000 in
theorem tree_number.calls (k : Nat) (a0_0 : Int) (a0_1 : Int) (a0_2 : Int) (a0_3 : ByteArray) (A0_4 : Option Addr) (c0_4 : Nat) (l0_4 : List Int) (r : Bool) (w : World) (hr0_4 : Kd.C (Kd.int .i64) w A0_4 l0_4.length l0_4) (hc0_4 : l0_4.length ≤ c0_4) (h : tree_number.f k a0_0 a0_1 a0_2 a0_3 l0_4 = some r) :
  Calls Try.prog 69 #[.agg #[.int .i64 a0_0, .int .i64 a0_1, .int .i64 a0_2, .string a0_3, .slice A0_4 l0_4.length c0_4]] w fun e w' => e = .returned (.bool r) ∧ Below w.heap.size w w' := by
 have hu101 := Try.underlying101
 have HR0_4 := Aside0.mk hr0_4
 have HC0_4 := Aside0.mk hc0_4
 clear hr0_4 hc0_4
 have HB := Aside0.mk (Below.refl w.heap.size w)
 have H : (if a0_0 = 2 then (tree_number.j0 k a0_0 (a0_0 == 2) a0_0 a0_1 a0_2 a0_3 l0_4) else (if a0_0 = 4 then (tree_number.j0 k a0_0 (a0_0 == 4) a0_0 a0_1 a0_2 a0_3 l0_4) else (tree_number.j0 k a0_0 (a0_0 == 5) a0_0 a0_1 a0_2 a0_3 l0_4))) = some r := h
 clear h
 have HC2 := Aside0.mk H
 clear H
 go_enter Try.func69, Try.ntmps69
 go_upto_if 5 with (first | ((with_reducible refine gate_dst (N := 1) rfl ?_); refine box_event ?hg (N := 1) ?hd (cs := #[.int .i64 a0_0, .int .i64 a0_1, .int .i64 a0_2, .string a0_3, .slice A0_4 l0_4.length c0_4]) (t := 101) ?hr ?_; (case hd => rfl); (case hg => rfl); (case hr => first | (go_simp; done) | (go_simp; rfl)); intro gb195 hg w3 hbox hb; have n0_ := Aside0.mk (below_step (by repeat (first | (with_reducible first | exact HB.out | apply below_alloc | apply pw_below_drewN | apply below_drew1) | exact HB.out)) hb); have n1_ := Aside0.mk (hbox); have n2_ := Aside0.mk ((by rw [hg]; exact (below_size (by repeat (first | (with_reducible first | exact HB.out | apply below_alloc | apply pw_below_drewN | apply below_drew1) | exact HB.out))) : w.heap.size ≤ gb195)); have n3_ := Aside0.mk ((by rw [hg]; exact (below_size (by repeat (first | (with_reducible first | exact HB.out | apply below_alloc | apply pw_below_drewN | apply below_drew1) | exact HB.out))) : w.heap.size ≤ gb195)); clear HB; have HB := n0_; have BK195 := n1_; have GW195 := n2_; have GE195 := n3_; clear n0_ n1_ n2_ n3_; clear hb hbox hg; have hcz4_0 : w3.cell? ⟨gb195, 0, none⟩ = some (.int .i64 a0_0) := (blk_cell BK195.out 0).trans rfl; have hcz4_1 : w3.cell? ⟨gb195, 1, none⟩ = some (.int .i64 a0_1) := (blk_cell BK195.out 1).trans rfl; have hcz4_2 : w3.cell? ⟨gb195, 2, none⟩ = some (.int .i64 a0_2) := (blk_cell BK195.out 2).trans rfl; have hcz4_3 : w3.cell? ⟨gb195, 3, none⟩ = some (.string a0_3) := (blk_cell BK195.out 3).trans rfl; have hcz4_4 : w3.cell? ⟨gb195, 4, none⟩ = some (.slice A0_4 l0_4.length c0_4) := (blk_cell BK195.out 4).trans rfl; have hfz4_0 := blk_frozen BK195.out 0; have hfz4_1 := blk_frozen BK195.out 1; have hfz4_2 := blk_frozen BK195.out 2; have hfz4_3 := blk_frozen BK195.out 3; have hfz4_4 := blk_frozen BK195.out 4))
 (try simp only [Act.put, List.setIfInBounds_toArray, List.set_cons_zero, List.set_cons_succ])
 go_cut [5] (fun v5 wc => ∃ (kq : Nat) (x5_1 : Bool), v5 = .bool x5_1 ∧ Aside0 (tree_number.j0 kq a0_0 x5_1 a0_0 a0_1 a0_2 a0_3 l0_4 = some r) ∧ Aside0 (kq ≤ k) ∧ Aside0 (wc.heap[gb195]? = some (.cells #[.int .i64 a0_0, .int .i64 a0_1, .int .i64 a0_2, .string a0_3, (.slice A0_4 l0_4.length c0_4)] 101 (0, 0))) ∧ Aside0 (Below w.heap.size w wc))
 case first =>
  have H := HC2.out
  clear HC2
  by_cases c5 : a0_0 = 2
  ·rw [if_pos c5] at H
   have c5b0 : (a0_0 == 2) = true := beq_iff_eq.mpr c5
   have c5b1 : (a0_0 != 2) = false := bne_eq_false_iff_eq.mpr c5
   clear c5
   (first | rw [c5b0] | (simp only [i64_w, i32_w]; rw [c5b0]) | skip)
   have H' := Aside0.mk H
   clear H
   go_wp2
   go_meet
   case rel => exact ⟨_, ((a0_0 == 2)), (by first | rfl | (simp; done) | (simp [*]; done)), H', ⟨by first | omega | exact Nat.le_refl _⟩, ⟨by (with_reducible repeat (first | refine blk_drewN ?_ _ | refine blk_drew ?_ | refine blk_alloc ?_ _)); exact BK195.out⟩, ⟨by repeat (first | (with_reducible first | exact HB.out | apply below_alloc | apply pw_below_drewN | apply below_drew1 | refine below_set ?_ GE195.out) | exact HB.out)⟩⟩
  ·rw [if_neg c5] at H
   have c5b0 : (a0_0 == 2) = false := beq_eq_false_iff_ne.mpr c5
   have c5b1 : (a0_0 != 2) = true := bne_iff_ne.mpr c5
   (first | rw [c5b0] | (simp only [i64_w, i32_w]; rw [c5b0]) | skip)
   by_cases c6 : a0_0 = 4
   ·rw [if_pos c6] at H
    have c6b0 : (a0_0 == 4) = true := beq_iff_eq.mpr c6
    have c6b1 : (a0_0 != 4) = false := bne_eq_false_iff_eq.mpr c6
    clear c6
    have H' := Aside0.mk H
    clear H
    go_wp2
    go_meet
    case rel => exact ⟨_, ((a0_0 == 4)), (by first | rfl | (simp; done) | (simp [*]; done)), H', ⟨by first | omega | exact Nat.le_refl _⟩, ⟨by (with_reducible repeat (first | refine blk_drewN ?_ _ | refine blk_drew ?_ | refine blk_alloc ?_ _)); exact BK195.out⟩, ⟨by repeat (first | (with_reducible first | exact HB.out | apply below_alloc | apply pw_below_drewN | apply below_drew1 | refine below_set ?_ GE195.out) | exact HB.out)⟩⟩
   ·rw [if_neg c6] at H
    have c6b0 : (a0_0 == 4) = false := beq_eq_false_iff_ne.mpr c6
    have c6b1 : (a0_0 != 4) = true := bne_iff_ne.mpr c6
    have H' := Aside0.mk H
    clear H
    go_wp2
    go_meet
    case rel => exact ⟨_, ((a0_0 == 5)), (by first | rfl | (simp; done) | (simp [*]; done)), H', ⟨by first | omega | exact Nat.le_refl _⟩, ⟨by (with_reducible repeat (first | refine blk_drewN ?_ _ | refine blk_drew ?_ | refine blk_alloc ?_ _)); exact BK195.out⟩, ⟨by repeat (first | (with_reducible first | exact HB.out | apply below_alloc | apply pw_below_drewN | apply below_drew1 | refine below_set ?_ GE195.out) | exact HB.out)⟩⟩
 case rest =>
  clear HC2
  try clear p2
  try clear c5
  try clear c5b0
  try clear c5b1
  try clear c6
  try clear c6b0
  try clear c6b1
  try clear hcz4_0
  try clear hcz4_1
  try clear hcz4_2
  try clear hcz4_3
  try clear hcz4_4
  try clear hfz4_0
  try clear hfz4_1
  try clear hfz4_2
  try clear hfz4_3
  try clear hfz4_4
  obtain ⟨kq, x5_1, rfl, HA, HJ1, BK195, HB⟩ := hcut
  cases kq with
  | zero => exact absurd HA.out (by simp [tree_number.j0])
  | succ kj1 =>
   have H := HA.out
   clear HA
   simp only [tree_number.j0] at H
   by_cases c7 : x5_1 = true
   ·subst c7
    have H1 : (if a0_1 ≥ 1 then (some (decide (a0_1 ≤ 4))) else (some false)) = some r := by rw [if_pos rfl] at H; exact H
    clear H
    have H := H1
    clear H1
    by_cases c8 : a0_1 ≥ 1
    ·rw [if_pos c8] at H
     have c8b0 : decide (1 ≤ a0_1) = true := decide_eq_true c8
     clear c8
     obtain rfl := Option.some.inj H
     have hcz9_0 : wc.cell? ⟨gb195, 0, none⟩ = some (.int .i64 a0_0) := (blk_cell BK195.out 0).trans rfl
     have hcz9_1 : wc.cell? ⟨gb195, 1, none⟩ = some (.int .i64 a0_1) := (blk_cell BK195.out 1).trans rfl
     have hcz9_2 : wc.cell? ⟨gb195, 2, none⟩ = some (.int .i64 a0_2) := (blk_cell BK195.out 2).trans rfl
     have hcz9_3 : wc.cell? ⟨gb195, 3, none⟩ = some (.string a0_3) := (blk_cell BK195.out 3).trans rfl
     have hcz9_4 : wc.cell? ⟨gb195, 4, none⟩ = some (.slice A0_4 l0_4.length c0_4) := (blk_cell BK195.out 4).trans rfl
     have hfz9_0 := blk_frozen BK195.out 0
     have hfz9_1 := blk_frozen BK195.out 1
     have hfz9_2 := blk_frozen BK195.out 2
     have hfz9_3 := blk_frozen BK195.out 3
     have hfz9_4 := blk_frozen BK195.out 4
     go_wp2
     go_ret
     exact ⟨by first | rfl | (simp [errW_none, errW_some] <;> rfl) | (simp [*, errW_none, errW_some] <;> rfl), by repeat (first | (with_reducible first | exact HB.out | apply below_alloc | apply pw_below_drewN | apply below_drew1 | refine below_set ?_ GE195.out) | exact HB.out)⟩
    ·rw [if_neg c8] at H
     have c8b0 : decide (1 ≤ a0_1) = false := decide_eq_false c8
     clear c8
     obtain rfl := Option.some.inj H
     have hcz10_0 : wc.cell? ⟨gb195, 0, none⟩ = some (.int .i64 a0_0) := (blk_cell BK195.out 0).trans rfl
     have hcz10_1 : wc.cell? ⟨gb195, 1, none⟩ = some (.int .i64 a0_1) := (blk_cell BK195.out 1).trans rfl
     have hcz10_2 : wc.cell? ⟨gb195, 2, none⟩ = some (.int .i64 a0_2) := (blk_cell BK195.out 2).trans rfl
     have hcz10_3 : wc.cell? ⟨gb195, 3, none⟩ = some (.string a0_3) := (blk_cell BK195.out 3).trans rfl
     have hcz10_4 : wc.cell? ⟨gb195, 4, none⟩ = some (.slice A0_4 l0_4.length c0_4) := (blk_cell BK195.out 4).trans rfl
     have hfz10_0 := blk_frozen BK195.out 0
     have hfz10_1 := blk_frozen BK195.out 1
     have hfz10_2 := blk_frozen BK195.out 2
     have hfz10_3 := blk_frozen BK195.out 3
     have hfz10_4 := blk_frozen BK195.out 4
     go_wp2
     go_ret
     exact ⟨by first | rfl | (simp [errW_none, errW_some] <;> rfl) | (simp [*, errW_none, errW_some] <;> rfl), by repeat (first | (with_reducible first | exact HB.out | apply below_alloc | apply pw_below_drewN | apply below_drew1 | refine below_set ?_ GE195.out) | exact HB.out)⟩
   ·replace c7 := Bool.eq_false_iff.mpr c7
    subst c7
    have H1 : (if a0_0 = 3 then (if a0_1 ≥ 0 then (some (decide (a0_1 ≤ 4))) else (some false)) else (if a0_0 = 20 then (some (decide (a0_1 ≥ 0))) else (if a0_0 = 21 then (if a0_1 = 0 then (some true) else (some (a0_1 == 1))) else (some (a0_1 == 0))))) = some r := by rw [if_neg (show ¬ (false = true) by decide)] at H; exact H
    clear H
    have H := H1
    clear H1
    by_cases c11 : a0_0 = 3
    ·rw [if_pos c11] at H
     have c11b0 : (a0_0 == 3) = true := beq_iff_eq.mpr c11
     have c11b1 : (a0_0 != 3) = false := bne_eq_false_iff_eq.mpr c11
     clear c11
     by_cases c12 : a0_1 ≥ 0
     ·rw [if_pos c12] at H
      have c12b0 : decide (0 ≤ a0_1) = true := decide_eq_true c12
      clear c12
      obtain rfl := Option.some.inj H
      have hcz13_0 : wc.cell? ⟨gb195, 0, none⟩ = some (.int .i64 a0_0) := (blk_cell BK195.out 0).trans rfl
      have hcz13_1 : wc.cell? ⟨gb195, 1, none⟩ = some (.int .i64 a0_1) := (blk_cell BK195.out 1).trans rfl
      have hcz13_2 : wc.cell? ⟨gb195, 2, none⟩ = some (.int .i64 a0_2) := (blk_cell BK195.out 2).trans rfl
      have hcz13_3 : wc.cell? ⟨gb195, 3, none⟩ = some (.string a0_3) := (blk_cell BK195.out 3).trans rfl
      have hcz13_4 : wc.cell? ⟨gb195, 4, none⟩ = some (.slice A0_4 l0_4.length c0_4) := (blk_cell BK195.out 4).trans rfl
      have hfz13_0 := blk_frozen BK195.out 0
      have hfz13_1 := blk_frozen BK195.out 1
      have hfz13_2 := blk_frozen BK195.out 2
      have hfz13_3 := blk_frozen BK195.out 3
      have hfz13_4 := blk_frozen BK195.out 4
      go_wp2
      go_ret
      exact ⟨by first | rfl | (simp [errW_none, errW_some] <;> rfl) | (simp [*, errW_none, errW_some] <;> rfl), by repeat (first | (with_reducible first | exact HB.out | apply below_alloc | apply pw_below_drewN | apply below_drew1 | refine below_set ?_ GE195.out) | exact HB.out)⟩
     ·rw [if_neg c12] at H
      have c12b0 : decide (0 ≤ a0_1) = false := decide_eq_false c12
      clear c12
      obtain rfl := Option.some.inj H
      have hcz14_0 : wc.cell? ⟨gb195, 0, none⟩ = some (.int .i64 a0_0) := (blk_cell BK195.out 0).trans rfl
      have hcz14_1 : wc.cell? ⟨gb195, 1, none⟩ = some (.int .i64 a0_1) := (blk_cell BK195.out 1).trans rfl
      have hcz14_2 : wc.cell? ⟨gb195, 2, none⟩ = some (.int .i64 a0_2) := (blk_cell BK195.out 2).trans rfl
      have hcz14_3 : wc.cell? ⟨gb195, 3, none⟩ = some (.string a0_3) := (blk_cell BK195.out 3).trans rfl
      have hcz14_4 : wc.cell? ⟨gb195, 4, none⟩ = some (.slice A0_4 l0_4.length c0_4) := (blk_cell BK195.out 4).trans rfl
      have hfz14_0 := blk_frozen BK195.out 0
      have hfz14_1 := blk_frozen BK195.out 1
      have hfz14_2 := blk_frozen BK195.out 2
      have hfz14_3 := blk_frozen BK195.out 3
      have hfz14_4 := blk_frozen BK195.out 4
      go_wp2
      go_ret
      exact ⟨by first | rfl | (simp [errW_none, errW_some] <;> rfl) | (simp [*, errW_none, errW_some] <;> rfl), by repeat (first | (with_reducible first | exact HB.out | apply below_alloc | apply pw_below_drewN | apply below_drew1 | refine below_set ?_ GE195.out) | exact HB.out)⟩
    ·rw [if_neg c11] at H
     have c11b0 : (a0_0 == 3) = false := beq_eq_false_iff_ne.mpr c11
     have c11b1 : (a0_0 != 3) = true := bne_iff_ne.mpr c11
     by_cases c15 : a0_0 = 20
     ·rw [if_pos c15] at H
      have c15b0 : (a0_0 == 20) = true := beq_iff_eq.mpr c15
      have c15b1 : (a0_0 != 20) = false := bne_eq_false_iff_eq.mpr c15
      clear c15
      obtain rfl := Option.some.inj H
      have hcz16_0 : wc.cell? ⟨gb195, 0, none⟩ = some (.int .i64 a0_0) := (blk_cell BK195.out 0).trans rfl
      have hcz16_1 : wc.cell? ⟨gb195, 1, none⟩ = some (.int .i64 a0_1) := (blk_cell BK195.out 1).trans rfl
      have hcz16_2 : wc.cell? ⟨gb195, 2, none⟩ = some (.int .i64 a0_2) := (blk_cell BK195.out 2).trans rfl
      have hcz16_3 : wc.cell? ⟨gb195, 3, none⟩ = some (.string a0_3) := (blk_cell BK195.out 3).trans rfl
      have hcz16_4 : wc.cell? ⟨gb195, 4, none⟩ = some (.slice A0_4 l0_4.length c0_4) := (blk_cell BK195.out 4).trans rfl
      have hfz16_0 := blk_frozen BK195.out 0
      have hfz16_1 := blk_frozen BK195.out 1
      have hfz16_2 := blk_frozen BK195.out 2
      have hfz16_3 := blk_frozen BK195.out 3
      have hfz16_4 := blk_frozen BK195.out 4
      go_wp2
      go_ret
      exact ⟨by first | rfl | (simp [errW_none, errW_some] <;> rfl) | (simp [*, errW_none, errW_some] <;> rfl), by repeat (first | (with_reducible first | exact HB.out | apply below_alloc | apply pw_below_drewN | apply below_drew1 | refine below_set ?_ GE195.out) | exact HB.out)⟩
     ·rw [if_neg c15] at H
      have c15b0 : (a0_0 == 20) = false := beq_eq_false_iff_ne.mpr c15
      have c15b1 : (a0_0 != 20) = true := bne_iff_ne.mpr c15
      by_cases c17 : a0_0 = 21
      ·rw [if_pos c17] at H
       have c17b0 : (a0_0 == 21) = true := beq_iff_eq.mpr c17
       have c17b1 : (a0_0 != 21) = false := bne_eq_false_iff_eq.mpr c17
       clear c17
       by_cases c18 : a0_1 = 0
       ·rw [if_pos c18] at H
        have c18b0 : (a0_1 == 0) = true := beq_iff_eq.mpr c18
        have c18b1 : (a0_1 != 0) = false := bne_eq_false_iff_eq.mpr c18
        clear c18
        obtain rfl := Option.some.inj H
        have hcz19_0 : wc.cell? ⟨gb195, 0, none⟩ = some (.int .i64 a0_0) := (blk_cell BK195.out 0).trans rfl
        have hcz19_1 : wc.cell? ⟨gb195, 1, none⟩ = some (.int .i64 a0_1) := (blk_cell BK195.out 1).trans rfl
        have hcz19_2 : wc.cell? ⟨gb195, 2, none⟩ = some (.int .i64 a0_2) := (blk_cell BK195.out 2).trans rfl
        have hcz19_3 : wc.cell? ⟨gb195, 3, none⟩ = some (.string a0_3) := (blk_cell BK195.out 3).trans rfl
        have hcz19_4 : wc.cell? ⟨gb195, 4, none⟩ = some (.slice A0_4 l0_4.length c0_4) := (blk_cell BK195.out 4).trans rfl
        have hfz19_0 := blk_frozen BK195.out 0
        have hfz19_1 := blk_frozen BK195.out 1
        have hfz19_2 := blk_frozen BK195.out 2
        have hfz19_3 := blk_frozen BK195.out 3
        have hfz19_4 := blk_frozen BK195.out 4
        go_wp2
        go_ret
        exact ⟨by first | rfl | (simp [errW_none, errW_some] <;> rfl) | (simp [*, errW_none, errW_some] <;> rfl), by repeat (first | (with_reducible first | exact HB.out | apply below_alloc | apply pw_below_drewN | apply below_drew1 | refine below_set ?_ GE195.out) | exact HB.out)⟩
       ·rw [if_neg c18] at H
        have c18b0 : (a0_1 == 0) = false := beq_eq_false_iff_ne.mpr c18
        have c18b1 : (a0_1 != 0) = true := bne_iff_ne.mpr c18
        obtain rfl := Option.some.inj H
        have hcz20_0 : wc.cell? ⟨gb195, 0, none⟩ = some (.int .i64 a0_0) := (blk_cell BK195.out 0).trans rfl
        have hcz20_1 : wc.cell? ⟨gb195, 1, none⟩ = some (.int .i64 a0_1) := (blk_cell BK195.out 1).trans rfl
        have hcz20_2 : wc.cell? ⟨gb195, 2, none⟩ = some (.int .i64 a0_2) := (blk_cell BK195.out 2).trans rfl
        have hcz20_3 : wc.cell? ⟨gb195, 3, none⟩ = some (.string a0_3) := (blk_cell BK195.out 3).trans rfl
        have hcz20_4 : wc.cell? ⟨gb195, 4, none⟩ = some (.slice A0_4 l0_4.length c0_4) := (blk_cell BK195.out 4).trans rfl
        have hfz20_0 := blk_frozen BK195.out 0
        have hfz20_1 := blk_frozen BK195.out 1
        have hfz20_2 := blk_frozen BK195.out 2
        have hfz20_3 := blk_frozen BK195.out 3
        have hfz20_4 := blk_frozen BK195.out 4
        go_wp2
        go_ret
        exact ⟨by first | rfl | (simp [errW_none, errW_some] <;> rfl) | (simp [*, errW_none, errW_some] <;> rfl), by repeat (first | (with_reducible first | exact HB.out | apply below_alloc | apply pw_below_drewN | apply below_drew1 | refine below_set ?_ GE195.out) | exact HB.out)⟩
      ·rw [if_neg c17] at H
       have c17b0 : (a0_0 == 21) = false := beq_eq_false_iff_ne.mpr c17
       have c17b1 : (a0_0 != 21) = true := bne_iff_ne.mpr c17
       obtain rfl := Option.some.inj H
       have hcz21_0 : wc.cell? ⟨gb195, 0, none⟩ = some (.int .i64 a0_0) := (blk_cell BK195.out 0).trans rfl
       have hcz21_1 : wc.cell? ⟨gb195, 1, none⟩ = some (.int .i64 a0_1) := (blk_cell BK195.out 1).trans rfl
       have hcz21_2 : wc.cell? ⟨gb195, 2, none⟩ = some (.int .i64 a0_2) := (blk_cell BK195.out 2).trans rfl
       have hcz21_3 : wc.cell? ⟨gb195, 3, none⟩ = some (.string a0_3) := (blk_cell BK195.out 3).trans rfl
       have hcz21_4 : wc.cell? ⟨gb195, 4, none⟩ = some (.slice A0_4 l0_4.length c0_4) := (blk_cell BK195.out 4).trans rfl
       have hfz21_0 := blk_frozen BK195.out 0
       have hfz21_1 := blk_frozen BK195.out 1
       have hfz21_2 := blk_frozen BK195.out 2
       have hfz21_3 := blk_frozen BK195.out 3
       have hfz21_4 := blk_frozen BK195.out 4
       go_wp2
       go_ret
       exact ⟨by first | rfl | (simp [errW_none, errW_some] <;> rfl) | (simp [*, errW_none, errW_some] <;> rfl), by repeat (first | (with_reducible first | exact HB.out | apply below_alloc | apply pw_below_drewN | apply below_drew1 | refine below_set ?_ GE195.out) | exact HB.out)⟩
def rn (p : Int → Bool) (m : Nat) (L : List Int) (i : Nat) : Nat := runF p m (L.drop i)
def fin (L : List Int) (i : Nat) : Bool := (i : Int) == (L.length : Int)
def kidsB_1 (L : List Int) : Bool := fin L (0 + rn (fun x => x == 2) 4000 L (0) + rn (fun x => x == 3) 4000 L (0 + rn (fun x => x == 2) 4000 L (0)))
def kidsB_3 (L : List Int) : Bool := (((rn (fun x => x == 6) 1 L (0 + rn (fun x => x == 4) 4000 L (0) + rn (fun x => x == 5) 4000 L (0 + rn (fun x => x == 4) 4000 L (0))) : Nat) : Int) == 1) && fin L (0 + rn (fun x => x == 4) 4000 L (0) + rn (fun x => x == 5) 4000 L (0 + rn (fun x => x == 4) 4000 L (0)) + rn (fun x => x == 6) 1 L (0 + rn (fun x => x == 4) 4000 L (0) + rn (fun x => x == 5) 4000 L (0 + rn (fun x => x == 4) 4000 L (0))))
def kidsB_6 (L : List Int) : Bool := fin L (0 + rn stB 4000 L (0))
def kidsB_7 (L : List Int) : Bool := (((rn exB 1 L (0) : Nat) : Int) == 1) && fin L (0 + rn exB 1 L (0))
def kidsB_15 (L : List Int) : Bool := (((rn exB 1 L (0) : Nat) : Int) == 1) && fin L (0 + rn exB 1 L (0))
def kidsB_17 (L : List Int) : Bool := (((rn exB 1 L (0) : Nat) : Int) == 1) && fin L (0 + rn exB 1 L (0))
def kidsB_23 (L : List Int) : Bool := (((rn exB 1 L (0) : Nat) : Int) == 1) && fin L (0 + rn exB 1 L (0))
def kidsB_26 (L : List Int) : Bool := (((rn exB 1 L (0) : Nat) : Int) == 1) && fin L (0 + rn exB 1 L (0))
def kidsB_8 (L : List Int) : Bool := (((rn exB 2 L (0) : Nat) : Int) == 2) && fin L (0 + rn exB 2 L (0))
def kidsB_27 (L : List Int) : Bool := (((rn exB 2 L (0) : Nat) : Int) == 2) && fin L (0 + rn exB 2 L (0))
def kidsB_9 (L : List Int) : Bool := (((rn (fun x => x == 18) 1 L (0) : Nat) : Int) == 1) && fin L (0 + rn (fun x => x == 18) 1 L (0))
def kidsB_10 (L : List Int) : Bool := (((rn (fun x => x == 18) 1 L (0) : Nat) : Int) == 1) && (((rn exB 1 L (0 + rn (fun x => x == 18) 1 L (0)) : Nat) : Int) == 1) && fin L (0 + rn (fun x => x == 18) 1 L (0) + rn exB 1 L (0 + rn (fun x => x == 18) 1 L (0)))
def kidsB_11 (L : List Int) : Bool := (((rn exB 1 L (0) : Nat) : Int) == 1) && (((rn (fun x => x == 6) 2 L (0 + rn exB 1 L (0)) : Nat) : Int) == 2) && fin L (0 + rn exB 1 L (0) + rn (fun x => x == 6) 2 L (0 + rn exB 1 L (0)))
def kidsB_12 (L : List Int) : Bool := (((rn exB 1 L (0) : Nat) : Int) == 1) && (((rn (fun x => x == 6) 1 L (0 + rn exB 1 L (0)) : Nat) : Int) == 1) && fin L (0 + rn exB 1 L (0) + rn (fun x => x == 6) 1 L (0 + rn exB 1 L (0)))
def kidsB_13 (L : List Int) : Bool := (((rn (fun x => x == 19) 1 L (0) : Nat) : Int) == 1) && fin L (0 + rn (fun x => x == 19) 1 L (0) + rn exB 4000 L (0 + rn (fun x => x == 19) 1 L (0)))
def kidsB_14 (L : List Int) : Bool := fin L (0 + rn exB 1 L (0))
def kidsB_16 (L : List Int) : Bool := (((rn (fun x => x == 6) 2 L (0) : Nat) : Int) == 2) && fin L (0 + rn (fun x => x == 6) 2 L (0))
def kidsB_2 (L : List Int) : Bool := fin L (0)
def kidsB_4 (L : List Int) : Bool := fin L (0)
def kidsB_5 (L : List Int) : Bool := fin L (0)
def kidsB_18 (L : List Int) : Bool := fin L (0)
def kidsB_19 (L : List Int) : Bool := fin L (0)
def kidsB_20 (L : List Int) : Bool := fin L (0)
def kidsB_21 (L : List Int) : Bool := fin L (0)
def kidsB_22 (L : List Int) : Bool := fin L (0)
def kidsB_24 (L : List Int) : Bool := fin L (0)
def kidsB_25 (L : List Int) : Bool := fin L (0)
def kidsB (k : Int) (L : List Int) : Bool :=
 if k = 1 then kidsB_1 L
 else if k = 3 then kidsB_3 L
 else if k = 6 then kidsB_6 L
 else if k = 7 then kidsB_7 L
 else if k = 15 then kidsB_15 L
 else if k = 17 then kidsB_17 L
 else if k = 23 then kidsB_23 L
 else if k = 26 then kidsB_26 L
 else if k = 8 then kidsB_8 L
 else if k = 27 then kidsB_27 L
 else if k = 9 then kidsB_9 L
 else if k = 10 then kidsB_10 L
 else if k = 11 then kidsB_11 L
 else if k = 12 then kidsB_12 L
 else if k = 13 then kidsB_13 L
 else if k = 14 then kidsB_14 L
 else if k = 16 then kidsB_16 L
 else if k = 2 then kidsB_2 L
 else if k = 4 then kidsB_4 L
 else if k = 5 then kidsB_5 L
 else if k = 18 then kidsB_18 L
 else if k = 19 then kidsB_19 L
 else if k = 20 then kidsB_20 L
 else if k = 21 then kidsB_21 L
 else if k = 22 then kidsB_22 L
 else if k = 24 then kidsB_24 L
 else if k = 25 then kidsB_25 L
 else fin L 0
theorem kinds_len (nodes : List S101) (kl : List Int) : (kindsOf nodes kl).length = kl.length := by simp [kindsOf]
theorem kids_is (k n at_ : Int) (h1 : 1 ≤ k) (h2 : k ≤ 27) (tx : ByteArray) (Ak : Option Addr) (ck : Nat) (kl : List Int) (At : Option Addr) (ct : Nat) (nodes : List S101) (root : Int) (w : World)
  (hK : Kd.C (Kd.int .i64) w Ak kl.length kl) (hT : Kd.C k101 w At nodes.length nodes) (hck : kl.length ≤ ck) (hct : nodes.length ≤ ct) (hkl : kl.length ≤ 4000) (hnl : nodes.length ≤ 4000) (hin : ∀ x ∈ kl, 0 ≤ x ∧ x < nodes.length) :
  Calls Try.prog 70 #[.agg #[.slice At nodes.length ct, .int .i64 root], nodeV k n at_ tx Ak kl.length ck] w fun e w' => e = .returned (.bool (kidsB k (kindsOf nodes kl))) ∧ Below w.heap.size w w' := by
 have hl := kinds_len nodes kl
 unfold kidsB
 by_cases e1 : k = 1
 ·subst e1
  rw [if_pos rfl, kidsB_1, fin, hl]
  exact kids_1 n at_ tx Ak ck kl At ct nodes root _ rfl _ rfl w hK hT hck hct hkl hnl hin
 rw [if_neg e1]
 by_cases e3 : k = 3
 ·subst e3
  rw [if_pos rfl, kidsB_3, fin, hl]
  exact kids_3 n at_ tx Ak ck kl At ct nodes root _ rfl _ rfl _ rfl w hK hT hck hct hkl hnl hin
 rw [if_neg e3]
 by_cases e6 : k = 6
 ·subst e6
  rw [if_pos rfl, kidsB_6, fin, hl]
  exact kids_6 n at_ tx Ak ck kl At ct nodes root _ rfl w hK hT hck hct hkl hnl hin
 rw [if_neg e6]
 by_cases e7 : k = 7
 ·subst e7
  rw [if_pos rfl, kidsB_7, fin, hl]
  exact kids_7 n at_ tx Ak ck kl At ct nodes root _ rfl w hK hT hck hct hkl hnl hin
 rw [if_neg e7]
 by_cases e15 : k = 15
 ·subst e15
  rw [if_pos rfl, kidsB_15, fin, hl]
  exact kids_15 n at_ tx Ak ck kl At ct nodes root _ rfl w hK hT hck hct hkl hnl hin
 rw [if_neg e15]
 by_cases e17 : k = 17
 ·subst e17
  rw [if_pos rfl, kidsB_17, fin, hl]
  exact kids_17 n at_ tx Ak ck kl At ct nodes root _ rfl w hK hT hck hct hkl hnl hin
 rw [if_neg e17]
 by_cases e23 : k = 23
 ·subst e23
  rw [if_pos rfl, kidsB_23, fin, hl]
  exact kids_23 n at_ tx Ak ck kl At ct nodes root _ rfl w hK hT hck hct hkl hnl hin
 rw [if_neg e23]
 by_cases e26 : k = 26
 ·subst e26
  rw [if_pos rfl, kidsB_26, fin, hl]
  exact kids_26 n at_ tx Ak ck kl At ct nodes root _ rfl w hK hT hck hct hkl hnl hin
 rw [if_neg e26]
 by_cases e8 : k = 8
 ·subst e8
  rw [if_pos rfl, kidsB_8, fin, hl]
  exact kids_8 n at_ tx Ak ck kl At ct nodes root _ rfl w hK hT hck hct hkl hnl hin
 rw [if_neg e8]
 by_cases e27 : k = 27
 ·subst e27
  rw [if_pos rfl, kidsB_27, fin, hl]
  exact kids_27 n at_ tx Ak ck kl At ct nodes root _ rfl w hK hT hck hct hkl hnl hin
 rw [if_neg e27]
 by_cases e9 : k = 9
 ·subst e9
  rw [if_pos rfl, kidsB_9, fin, hl]
  exact kids_9 n at_ tx Ak ck kl At ct nodes root _ rfl w hK hT hck hct hkl hnl hin
 rw [if_neg e9]
 by_cases e10 : k = 10
 ·subst e10
  rw [if_pos rfl, kidsB_10, fin, hl]
  exact kids_10 n at_ tx Ak ck kl At ct nodes root _ rfl _ rfl w hK hT hck hct hkl hnl hin
 rw [if_neg e10]
 by_cases e11 : k = 11
 ·subst e11
  rw [if_pos rfl, kidsB_11, fin, hl]
  exact kids_11 n at_ tx Ak ck kl At ct nodes root _ rfl _ rfl w hK hT hck hct hkl hnl hin
 rw [if_neg e11]
 by_cases e12 : k = 12
 ·subst e12
  rw [if_pos rfl, kidsB_12, fin, hl]
  exact kids_12 n at_ tx Ak ck kl At ct nodes root _ rfl _ rfl w hK hT hck hct hkl hnl hin
 rw [if_neg e12]
 by_cases e13 : k = 13
 ·subst e13
  rw [if_pos rfl, kidsB_13, fin, hl]
  exact kids_13 n at_ tx Ak ck kl At ct nodes root _ rfl _ rfl w hK hT hck hct hkl hnl hin
 rw [if_neg e13]
 by_cases e14 : k = 14
 ·subst e14
  rw [if_pos rfl, kidsB_14, fin, hl]
  exact kids_14 n at_ tx Ak ck kl At ct nodes root _ rfl w hK hT hck hct hkl hnl hin
 rw [if_neg e14]
 by_cases e16 : k = 16
 ·subst e16
  rw [if_pos rfl, kidsB_16, fin, hl]
  exact kids_16 n at_ tx Ak ck kl At ct nodes root _ rfl w hK hT hck hct hkl hnl hin
 rw [if_neg e16]
 by_cases e2 : k = 2
 ·subst e2
  rw [if_pos rfl, kidsB_2, fin, hl]
  exact kids_2 n at_ tx Ak ck kl At ct nodes root w hK hT hck hct hkl hnl hin
 rw [if_neg e2]
 by_cases e4 : k = 4
 ·subst e4
  rw [if_pos rfl, kidsB_4, fin, hl]
  exact kids_4 n at_ tx Ak ck kl At ct nodes root w hK hT hck hct hkl hnl hin
 rw [if_neg e4]
 by_cases e5 : k = 5
 ·subst e5
  rw [if_pos rfl, kidsB_5, fin, hl]
  exact kids_5 n at_ tx Ak ck kl At ct nodes root w hK hT hck hct hkl hnl hin
 rw [if_neg e5]
 by_cases e18 : k = 18
 ·subst e18
  rw [if_pos rfl, kidsB_18, fin, hl]
  exact kids_18 n at_ tx Ak ck kl At ct nodes root w hK hT hck hct hkl hnl hin
 rw [if_neg e18]
 by_cases e19 : k = 19
 ·subst e19
  rw [if_pos rfl, kidsB_19, fin, hl]
  exact kids_19 n at_ tx Ak ck kl At ct nodes root w hK hT hck hct hkl hnl hin
 rw [if_neg e19]
 by_cases e20 : k = 20
 ·subst e20
  rw [if_pos rfl, kidsB_20, fin, hl]
  exact kids_20 n at_ tx Ak ck kl At ct nodes root w hK hT hck hct hkl hnl hin
 rw [if_neg e20]
 by_cases e21 : k = 21
 ·subst e21
  rw [if_pos rfl, kidsB_21, fin, hl]
  exact kids_21 n at_ tx Ak ck kl At ct nodes root w hK hT hck hct hkl hnl hin
 rw [if_neg e21]
 by_cases e22 : k = 22
 ·subst e22
  rw [if_pos rfl, kidsB_22, fin, hl]
  exact kids_22 n at_ tx Ak ck kl At ct nodes root w hK hT hck hct hkl hnl hin
 rw [if_neg e22]
 by_cases e24 : k = 24
 ·subst e24
  rw [if_pos rfl, kidsB_24, fin, hl]
  exact kids_24 n at_ tx Ak ck kl At ct nodes root w hK hT hck hct hkl hnl hin
 rw [if_neg e24]
 by_cases e25 : k = 25
 ·subst e25
  rw [if_pos rfl, kidsB_25, fin, hl]
  exact kids_25 n at_ tx Ak ck kl At ct nodes root w hK hT hck hct hkl hnl hin
 rw [if_neg e25]
 omega
def numB (k n : Int) : Bool :=
 if k = 2 ∨ k = 4 ∨ k = 5 then decide (1 ≤ n) && decide (n ≤ 4)
 else if k = 3 then decide (0 ≤ n) && decide (n ≤ 4)
 else if k = 20 then decide (0 ≤ n)
 else if k = 21 then n == 0 || n == 1
 else n == 0
theorem num_j (k n at_ : Int) (b : Bool) (x : Int) (tx : ByteArray) (l : List Int) : tree_number.j0 1 k b x n at_ tx l = some (if b = true then decide (1 ≤ n) && decide (n ≤ 4) else if k = 3 then decide (0 ≤ n) && decide (n ≤ 4) else if k = 20 then decide (0 ≤ n) else if k = 21 then n == 0 || n == 1 else n == 0) := by
 unfold tree_number.j0
 cases b
 ·simp only [Bool.false_eq_true, if_false]
  by_cases h3 : k = 3
  ·simp only [h3, if_true]
   by_cases h : n ≥ 0
   ·simp [h]
   ·simp [h]
  ·by_cases h20 : k = 20
   ·simp [h20]
   ·by_cases h21 : k = 21
    ·simp only [h3, h20, h21, if_false, if_true]
     by_cases h : n = 0
     ·simp [h]
     ·simp [h]
    ·simp [h3, h20, h21]
 ·simp only [if_true]
  by_cases h : n ≥ 1
  ·simp [h]
  ·simp [h]
theorem num_f (k n at_ : Int) (tx : ByteArray) (l : List Int) : tree_number.f 1 k n at_ tx l = some (numB k n) := by
 unfold tree_number.f numB
 rw [num_j, num_j, num_j]
 by_cases h2 : k = 2
 ·simp [h2]
 ·by_cases h4 : k = 4
  ·simp [h4]
  ·by_cases h5 : k = 5
   ·simp [h5]
   ·simp [h2, h4, h5]
def nodeOk (nodes : List S101) (k n : Int) (tx : ByteArray) (kl : List Int) : Bool := decide (1 ≤ k) && (decide (k ≤ 27) && (textB k tx && (numB k n && kidsB k (kindsOf nodes kl))))
set_option maxRecDepth 100000 in
set_option maxHeartbeats 8000000 in
theorem right1_is (g : Nat) (k n at_ : Int) (tx : ByteArray) (Ak : Option Addr) (ck : Nat) (kl : List Int) (At : Option Addr) (ct : Nat) (nodes : List S101) (root : Int) (w : World) (hE : Env w)
  (hT : w.heap[g]? = some (.cells #[.slice At nodes.length ct, .int .i64 root] 69 (0, 0)))
  (hK : Kd.C (Kd.int .i64) w Ak kl.length kl) (hC : Kd.C k101 w At nodes.length nodes) (hck : kl.length ≤ ck) (hct : nodes.length ≤ ct) (hkl : kl.length ≤ 4000) (hnl : nodes.length ≤ 4000) (hin : ∀ x ∈ kl, 0 ≤ x ∧ x < nodes.length) (hs : tx.size ≤ 140737488351232) :
  Calls Try.prog 67 #[nodeV k n at_ tx Ak kl.length ck, .pointer (some ⟨g, 0, none⟩)] w fun e w' => e = .returned (.bool (!nodeOk nodes k n tx kl)) ∧ Below w.heap.size w w' := by
 have HE := Lib.hid hE
 have HT := Lib.hid hT
 have HK := Lib.hid hK
 have HC := Lib.hid hC
 have HIN := Lib.hid hin
 clear hE hT hK hC hin
 unfold nodeOk nodeV
 by_cases h1 : 1 ≤ k
 ·have d1 : decide (k < 1) = false := decide_eq_false (by omega)
  by_cases h2 : k ≤ 27
  ·have d2 : decide (27 < k) = false := decide_eq_false (by omega)
   rw [decide_eq_true h1, decide_eq_true h2, Bool.true_and, Bool.true_and]
   obtain ⟨tb, htb⟩ : ∃ b, b = textB k tx := ⟨_, rfl⟩
   obtain ⟨nb, hnb⟩ : ∃ b, b = numB k n := ⟨_, rfl⟩
   obtain ⟨kb, hkb⟩ : ∃ b, b = kidsB k (kindsOf nodes kl) := ⟨_, rfl⟩
   have HTX := Lib.hid (fun (w : World) hE => text_is k n at_ tx Ak kl.length ck h1 h2 hs w hE)
   have HNX := Lib.hid (fun (w : World) hr => tree_number.calls 1 k n at_ tx Ak ck kl nb w hr hck (by rw [hnb]; exact num_f k n at_ tx kl))
   have HKX := Lib.hid (fun (w : World) hK hT => kids_is k n at_ h1 h2 tx Ak ck kl At ct nodes root w hK hT hck hct hkl hnl HIN.out)
   rw [← htb] at HTX ⊢
   rw [← hkb] at HKX ⊢
   rw [← hnb]
   clear htb hnb hkb
   unfold nodeV at HTX HKX
   go_enter Try.func67, Try.ntmps67
   go_wp2_with fail
   have hb0 : Below w.heap.size w (w.alloc (.cells #[.int .i64 k, .int .i64 n, .int .i64 at_, .string tx, .slice Ak kl.length ck] 101)) := below_alloc (Below.refl _ _) _
   have hbox := heap_alloc_new w (.cells #[.int .i64 k, .int .i64 n, .int .i64 at_, .string tx, .slice Ak kl.length ck] 101)
   obtain ⟨W1, hW1⟩ : ∃ W_, W_ = w.alloc (.cells #[.int .i64 k, .int .i64 n, .int .i64 at_, .string tx, .slice Ak kl.length ck] 101) := ⟨_, rfl⟩
   rw [← hW1] at hb0 hbox ⊢
   have HB0 := Lib.hid hb0
   have HX0 := Lib.hid hbox
   clear hW1 hb0 hbox
   refine (HTX.out W1 (HE.out.below HB0.out HE.out.six)).mono ?_
   rintro e_ W2 ⟨rfl, hb_⟩
   have HB2 := Lib.hid (below_step HB0.out hb_)
   have HX2 : Hid (W2.heap[w.heap.size]? = some (.cells #[.int .i64 k, .int .i64 n, .int .i64 at_, .string tx, .slice Ak kl.length ck] 101 (0, 0))) := Lib.hid ((hb_.block _ (blk_lt HX0.out)).trans HX0.out)
   clear hb_
   have c2_0 : W2.cell? ⟨w.heap.size, 0, none⟩ = some (.int .i64 k) := (blk_cell HX2.out 0).trans rfl
   have c2_1 : W2.cell? ⟨w.heap.size, 1, none⟩ = some (.int .i64 n) := (blk_cell HX2.out 1).trans rfl
   have c2_2 : W2.cell? ⟨w.heap.size, 2, none⟩ = some (.int .i64 at_) := (blk_cell HX2.out 2).trans rfl
   have c2_3 : W2.cell? ⟨w.heap.size, 3, none⟩ = some (.string tx) := (blk_cell HX2.out 3).trans rfl
   have c2_4 : W2.cell? ⟨w.heap.size, 4, none⟩ = some (.slice Ak kl.length ck) := (blk_cell HX2.out 4).trans rfl
   have HG2 : Hid (W2.heap[g]? = some (.cells #[.slice At nodes.length ct, .int .i64 root] 69 (0, 0))) := Lib.hid ((HB2.out.block _ (blk_lt HT.out)).trans HT.out)
   have e2_0 : W2.cell? ⟨g, 0, none⟩ = some (.slice At nodes.length ct) := (blk_cell HG2.out 0).trans rfl
   have e2_1 : W2.cell? ⟨g, 1, none⟩ = some (.int .i64 root) := (blk_cell HG2.out 1).trans rfl
   cases tb with
   | false =>
    go_wp2_with fail
    go_ret
    exact ⟨by simp, HB2.out⟩
   | true =>
    go_wp2_with fail
    refine (HNX.out W2 (Kd.C_below HK.out HB2.out)).mono ?_
    rintro e_ W3 ⟨rfl, hb_⟩
    clear c2_0 c2_1 c2_2 c2_3 c2_4 e2_0 e2_1
    have HB3 := Lib.hid (below_step HB2.out hb_)
    have HX3 : Hid (W3.heap[w.heap.size]? = some (.cells #[.int .i64 k, .int .i64 n, .int .i64 at_, .string tx, .slice Ak kl.length ck] 101 (0, 0))) := Lib.hid ((hb_.block _ (blk_lt HX2.out)).trans HX2.out)
    clear hb_
    have c3_0 : W3.cell? ⟨w.heap.size, 0, none⟩ = some (.int .i64 k) := (blk_cell HX3.out 0).trans rfl
    have c3_1 : W3.cell? ⟨w.heap.size, 1, none⟩ = some (.int .i64 n) := (blk_cell HX3.out 1).trans rfl
    have c3_2 : W3.cell? ⟨w.heap.size, 2, none⟩ = some (.int .i64 at_) := (blk_cell HX3.out 2).trans rfl
    have c3_3 : W3.cell? ⟨w.heap.size, 3, none⟩ = some (.string tx) := (blk_cell HX3.out 3).trans rfl
    have c3_4 : W3.cell? ⟨w.heap.size, 4, none⟩ = some (.slice Ak kl.length ck) := (blk_cell HX3.out 4).trans rfl
    have HG3 : Hid (W3.heap[g]? = some (.cells #[.slice At nodes.length ct, .int .i64 root] 69 (0, 0))) := Lib.hid ((HB3.out.block _ (blk_lt HT.out)).trans HT.out)
    have e3_0 : W3.cell? ⟨g, 0, none⟩ = some (.slice At nodes.length ct) := (blk_cell HG3.out 0).trans rfl
    have e3_1 : W3.cell? ⟨g, 1, none⟩ = some (.int .i64 root) := (blk_cell HG3.out 1).trans rfl
    cases nb with
    | false =>
     go_wp2_with fail
     go_ret
     exact ⟨by simp, HB3.out⟩
    | true =>
     go_wp2_with fail
     refine (HKX.out W3 (Kd.C_below HK.out HB3.out) (Kd.C_below HC.out HB3.out)).mono ?_
     rintro e_ W4 ⟨rfl, hb_⟩
     have HB4 := Lib.hid (below_step HB3.out hb_)
     clear hb_
     cases kb with
     | false =>
      go_wp2_with fail
      go_ret
      exact ⟨by simp, HB4.out⟩
     | true =>
      go_wp2_with fail
      go_ret
      exact ⟨by simp, HB4.out⟩
  ·have d2 : decide (27 < k) = true := decide_eq_true (by omega)
   go_enter Try.func67, Try.ntmps67
   go_wp2_with fail
   go_ret
   exact ⟨by rw [show decide (k ≤ 27) = false from decide_eq_false (by omega)]; simp, below_alloc (Below.refl _ _) _⟩
 ·have d1 : decide (k < 1) = true := decide_eq_true (by omega)
  go_enter Try.func67, Try.ntmps67
  go_wp2_with fail
  go_ret
  exact ⟨by rw [show decide (1 ≤ k) = false from decide_eq_false (by omega)]; simp, below_alloc (Below.refl _ _) _⟩
end Go.Proofs.Ytkhlfdcjgooogaa.P
