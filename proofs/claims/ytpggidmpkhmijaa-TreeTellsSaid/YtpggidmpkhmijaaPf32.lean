import Derived.Test.YtpggidmpkhmijaaTrD
import Derived.Test.YtpggidmpkhmijaaRose
set_option linter.unusedVariables false
set_option linter.unusedSimpArgs false
namespace Go.Proofs.Ytpggidmpkhmijaa.P
open Go.RowKit Go.Proofs.YtpggidmpkhmijaaW.PrintWords Go.Proofs.YtpggidmpkhmijaaW.PrintLast Go.Proofs.YtpggidmpkhmijaaW.PrintMore
set_option maxRecDepth 100000 in
set_option maxHeartbeats 16000000 in
theorem kids_3 (n at_ : Int) (tx : ByteArray) (Ak : Option Addr) (ck : Nat) (kl : List Int) (At : Option Addr) (ct : Nat) (nodes : List S24) (root : Int) (R0 : Nat) (h0 : R0 = runF (fun x => x == 4) 4000 ((kindsOf nodes kl).drop (0))) (R1 : Nat) (h1 : R1 = runF (fun x => x == 5) 4000 ((kindsOf nodes kl).drop (0 + R0))) (R2 : Nat) (h2 : R2 = runF (fun x => x == 6) 1 ((kindsOf nodes kl).drop (0 + R0 + R1))) (w : World)
  (hK : Kd.C (Kd.int .i64) w Ak kl.length kl) (hT : Kd.C k24 w At nodes.length nodes) (hck : kl.length ≤ ck) (hct : nodes.length ≤ ct) (hkl : kl.length ≤ 1000) (hnl : nodes.length ≤ 4000) (hin : ∀ x ∈ kl,0 ≤ x ∧ x < nodes.length) :
  Calls Try.prog 33 #[.agg #[.slice At nodes.length ct,.int .i64 root],nodeV 3 n at_ tx Ak kl.length ck] w fun e w' => e = .returned (.bool (((R2 : Int) == 1) && (((0 + R0 + R1 + R2 : Nat) : Int) == (kl.length : Int)))) ∧ Below w.heap.size w w':=by
 have hmf : ∀ (fn : Fn) (first cap : Array Value) (w : World),(Instr.makeFunc fn first cap).run Try.prog w = .ok (.func fn first cap) w:=fun _ _ _ _ => rfl
 have HKS:=Lib.hid (KS.start (k:=3) (n:=n) (at_:=at_) (tx:=tx) (root:=root) hK hT hck hct hkl hnl hin)
 have HR0:=Lib.hid h0
 have HR1:=Lib.hid h1
 have HR2:=Lib.hid h2
 clear hK hT hin h0 h1 h2
 unfold nodeV
 go_enter Try.func33,Try.ntmps33
 go_wp2_with fail
 obtain ⟨W0,hW0⟩ : ∃ W_,W_ = ((w.alloc (.cells #[.slice At nodes.length ct,.int .i64 root] 30)).alloc (.cells #[.int .i64 3,.int .i64 n,.int .i64 at_,.string tx,.slice Ak kl.length ck] 24)).alloc (.cells #[.int .i64 0] 3):=⟨_,rfl⟩
 rw [← hW0] at HKS ⊢
 have S0:=HKS
 clear hW0 HKS
 refine (is_new 4 W0).mono ?_
 rintro e_ w_ ⟨rfl,rfl⟩
 go_wp2_with fail
 refine (take_is _ 4 4000 (by decide) (by decide) S0.out).mono ?_
 rintro e_ W1 ⟨R_,rfl,HR_,S1⟩
 obtain rfl : R0 = R_:=HR0.out.trans HR_.out.symm
 clear HR_ S0
 go_wp2_with fail
 refine (is_new 5 W1).mono ?_
 rintro e_ w_ ⟨rfl,rfl⟩
 go_wp2_with fail
 refine (take_is _ 5 4000 (by decide) (by decide) S1.out).mono ?_
 rintro e_ W2 ⟨R_,rfl,HR_,S2⟩
 obtain rfl : R1 = R_:=HR1.out.trans HR_.out.symm
 clear HR_ S1
 go_wp2_with fail
 refine (is_new 6 W2).mono ?_
 rintro e_ w_ ⟨rfl,rfl⟩
 go_wp2_with fail
 refine (take_is _ 6 1 (by decide) (by decide) S2.out).mono ?_
 rintro e_ W3 ⟨R_,rfl,HR_,S3⟩
 obtain rfl : R2 = R_:=HR2.out.trans HR_.out.symm
 clear HR_ S2
 by_cases hc2 : R2 = 1
 ·have q2 : ((R2 : Int) == 1) = true:=by simp [hc2]
  go_wp2_with fail
  obtain ⟨iN,hiN⟩ : ∃ i_ : Nat,i_ = 0 + R0 + R1 + R2:=⟨_,rfl⟩
  rw [← hiN] at S3
  have HIN:=Lib.hid hiN
  clear hiN
  refine (end_st _ S3.out).mono ?_
  rintro e_ w_ ⟨rfl,rfl⟩
  go_wp2_with fail
  go_ret
  exact ⟨by rw [q2,← HIN.out]; rfl,S3.out.2.2.1⟩
 ·have q2 : ((R2 : Int) == 1) = false:=by simp; omega
  go_wp2_with fail
  go_ret
  exact ⟨by rw [q2]; rfl,S3.out.2.2.1⟩
set_option maxRecDepth 100000 in
set_option maxHeartbeats 16000000 in
theorem kids_15 (n at_ : Int) (tx : ByteArray) (Ak : Option Addr) (ck : Nat) (kl : List Int) (At : Option Addr) (ct : Nat) (nodes : List S24) (root : Int) (R0 : Nat) (h0 : R0 = runF exB 1 ((kindsOf nodes kl).drop (0))) (w : World)
  (hK : Kd.C (Kd.int .i64) w Ak kl.length kl) (hT : Kd.C k24 w At nodes.length nodes) (hck : kl.length ≤ ck) (hct : nodes.length ≤ ct) (hkl : kl.length ≤ 1000) (hnl : nodes.length ≤ 4000) (hin : ∀ x ∈ kl,0 ≤ x ∧ x < nodes.length) :
  Calls Try.prog 33 #[.agg #[.slice At nodes.length ct,.int .i64 root],nodeV 15 n at_ tx Ak kl.length ck] w fun e w' => e = .returned (.bool (((R0 : Int) == 1) && (((0 + R0 : Nat) : Int) == (kl.length : Int)))) ∧ Below w.heap.size w w':=by
 have hmf : ∀ (fn : Fn) (first cap : Array Value) (w : World),(Instr.makeFunc fn first cap).run Try.prog w = .ok (.func fn first cap) w:=fun _ _ _ _ => rfl
 have HKS:=Lib.hid (KS.start (k:=15) (n:=n) (at_:=at_) (tx:=tx) (root:=root) hK hT hck hct hkl hnl hin)
 have HR0:=Lib.hid h0
 clear hK hT hin h0
 unfold nodeV
 go_enter Try.func33,Try.ntmps33
 go_wp2_with fail
 obtain ⟨W0,hW0⟩ : ∃ W_,W_ = ((w.alloc (.cells #[.slice At nodes.length ct,.int .i64 root] 30)).alloc (.cells #[.int .i64 15,.int .i64 n,.int .i64 at_,.string tx,.slice Ak kl.length ck] 24)).alloc (.cells #[.int .i64 0] 3):=⟨_,rfl⟩
 rw [← hW0] at HKS ⊢
 have S0:=HKS
 clear hW0 HKS
 refine (zBm _ 1 (by decide) (by decide) S0.out).mono ?_
 rintro e_ W1 ⟨R_,rfl,HR_,S1⟩
 obtain rfl : R0 = R_:=HR0.out.trans HR_.out.symm
 clear HR_ S0
 by_cases hc0 : R0 = 1
 ·have q0 : ((R0 : Int) == 1) = true:=by simp [hc0]
  go_wp2_with fail
  obtain ⟨iN,hiN⟩ : ∃ i_ : Nat,i_ = 0 + R0:=⟨_,rfl⟩
  rw [← hiN] at S1
  have HIN:=Lib.hid hiN
  clear hiN
  refine (end_st _ S1.out).mono ?_
  rintro e_ w_ ⟨rfl,rfl⟩
  go_wp2_with fail
  go_ret
  exact ⟨by rw [q0,← HIN.out]; rfl,S1.out.2.2.1⟩
 ·have q0 : ((R0 : Int) == 1) = false:=by simp; omega
  go_wp2_with fail
  go_ret
  exact ⟨by rw [q0]; rfl,S1.out.2.2.1⟩
set_option maxRecDepth 100000 in
set_option maxHeartbeats 16000000 in
theorem kids_26 (n at_ : Int) (tx : ByteArray) (Ak : Option Addr) (ck : Nat) (kl : List Int) (At : Option Addr) (ct : Nat) (nodes : List S24) (root : Int) (R0 : Nat) (h0 : R0 = runF exB 1 ((kindsOf nodes kl).drop (0))) (w : World)
  (hK : Kd.C (Kd.int .i64) w Ak kl.length kl) (hT : Kd.C k24 w At nodes.length nodes) (hck : kl.length ≤ ck) (hct : nodes.length ≤ ct) (hkl : kl.length ≤ 1000) (hnl : nodes.length ≤ 4000) (hin : ∀ x ∈ kl,0 ≤ x ∧ x < nodes.length) :
  Calls Try.prog 33 #[.agg #[.slice At nodes.length ct,.int .i64 root],nodeV 26 n at_ tx Ak kl.length ck] w fun e w' => e = .returned (.bool (((R0 : Int) == 1) && (((0 + R0 : Nat) : Int) == (kl.length : Int)))) ∧ Below w.heap.size w w':=by
 have hmf : ∀ (fn : Fn) (first cap : Array Value) (w : World),(Instr.makeFunc fn first cap).run Try.prog w = .ok (.func fn first cap) w:=fun _ _ _ _ => rfl
 have HKS:=Lib.hid (KS.start (k:=26) (n:=n) (at_:=at_) (tx:=tx) (root:=root) hK hT hck hct hkl hnl hin)
 have HR0:=Lib.hid h0
 clear hK hT hin h0
 unfold nodeV
 go_enter Try.func33,Try.ntmps33
 go_wp2_with fail
 obtain ⟨W0,hW0⟩ : ∃ W_,W_ = ((w.alloc (.cells #[.slice At nodes.length ct,.int .i64 root] 30)).alloc (.cells #[.int .i64 26,.int .i64 n,.int .i64 at_,.string tx,.slice Ak kl.length ck] 24)).alloc (.cells #[.int .i64 0] 3):=⟨_,rfl⟩
 rw [← hW0] at HKS ⊢
 have S0:=HKS
 clear hW0 HKS
 refine (zBm _ 1 (by decide) (by decide) S0.out).mono ?_
 rintro e_ W1 ⟨R_,rfl,HR_,S1⟩
 obtain rfl : R0 = R_:=HR0.out.trans HR_.out.symm
 clear HR_ S0
 by_cases hc0 : R0 = 1
 ·have q0 : ((R0 : Int) == 1) = true:=by simp [hc0]
  go_wp2_with fail
  obtain ⟨iN,hiN⟩ : ∃ i_ : Nat,i_ = 0 + R0:=⟨_,rfl⟩
  rw [← hiN] at S1
  have HIN:=Lib.hid hiN
  clear hiN
  refine (end_st _ S1.out).mono ?_
  rintro e_ w_ ⟨rfl,rfl⟩
  go_wp2_with fail
  go_ret
  exact ⟨by rw [q0,← HIN.out]; rfl,S1.out.2.2.1⟩
 ·have q0 : ((R0 : Int) == 1) = false:=by simp; omega
  go_wp2_with fail
  go_ret
  exact ⟨by rw [q0]; rfl,S1.out.2.2.1⟩
set_option maxRecDepth 100000 in
set_option maxHeartbeats 16000000 in
theorem kids_9 (n at_ : Int) (tx : ByteArray) (Ak : Option Addr) (ck : Nat) (kl : List Int) (At : Option Addr) (ct : Nat) (nodes : List S24) (root : Int) (R0 : Nat) (h0 : R0 = runF (fun x => x == 18) 1 ((kindsOf nodes kl).drop (0))) (w : World)
  (hK : Kd.C (Kd.int .i64) w Ak kl.length kl) (hT : Kd.C k24 w At nodes.length nodes) (hck : kl.length ≤ ck) (hct : nodes.length ≤ ct) (hkl : kl.length ≤ 1000) (hnl : nodes.length ≤ 4000) (hin : ∀ x ∈ kl,0 ≤ x ∧ x < nodes.length) :
  Calls Try.prog 33 #[.agg #[.slice At nodes.length ct,.int .i64 root],nodeV 9 n at_ tx Ak kl.length ck] w fun e w' => e = .returned (.bool (((R0 : Int) == 1) && (((0 + R0 : Nat) : Int) == (kl.length : Int)))) ∧ Below w.heap.size w w':=by
 have hmf : ∀ (fn : Fn) (first cap : Array Value) (w : World),(Instr.makeFunc fn first cap).run Try.prog w = .ok (.func fn first cap) w:=fun _ _ _ _ => rfl
 have HKS:=Lib.hid (KS.start (k:=9) (n:=n) (at_:=at_) (tx:=tx) (root:=root) hK hT hck hct hkl hnl hin)
 have HR0:=Lib.hid h0
 clear hK hT hin h0
 unfold nodeV
 go_enter Try.func33,Try.ntmps33
 go_wp2_with fail
 obtain ⟨W0,hW0⟩ : ∃ W_,W_ = ((w.alloc (.cells #[.slice At nodes.length ct,.int .i64 root] 30)).alloc (.cells #[.int .i64 9,.int .i64 n,.int .i64 at_,.string tx,.slice Ak kl.length ck] 24)).alloc (.cells #[.int .i64 0] 3):=⟨_,rfl⟩
 rw [← hW0] at HKS ⊢
 have S0:=HKS
 clear hW0 HKS
 refine (is_new 18 W0).mono ?_
 rintro e_ w_ ⟨rfl,rfl⟩
 go_wp2_with fail
 refine (take_is _ 18 1 (by decide) (by decide) S0.out).mono ?_
 rintro e_ W1 ⟨R_,rfl,HR_,S1⟩
 obtain rfl : R0 = R_:=HR0.out.trans HR_.out.symm
 clear HR_ S0
 by_cases hc0 : R0 = 1
 ·have q0 : ((R0 : Int) == 1) = true:=by simp [hc0]
  go_wp2_with fail
  obtain ⟨iN,hiN⟩ : ∃ i_ : Nat,i_ = 0 + R0:=⟨_,rfl⟩
  rw [← hiN] at S1
  have HIN:=Lib.hid hiN
  clear hiN
  refine (end_st _ S1.out).mono ?_
  rintro e_ w_ ⟨rfl,rfl⟩
  go_wp2_with fail
  go_ret
  exact ⟨by rw [q0,← HIN.out]; rfl,S1.out.2.2.1⟩
 ·have q0 : ((R0 : Int) == 1) = false:=by simp; omega
  go_wp2_with fail
  go_ret
  exact ⟨by rw [q0]; rfl,S1.out.2.2.1⟩
set_option maxRecDepth 100000 in
set_option maxHeartbeats 16000000 in
theorem kids_12 (n at_ : Int) (tx : ByteArray) (Ak : Option Addr) (ck : Nat) (kl : List Int) (At : Option Addr) (ct : Nat) (nodes : List S24) (root : Int) (R0 : Nat) (h0 : R0 = runF exB 1 ((kindsOf nodes kl).drop (0))) (R1 : Nat) (h1 : R1 = runF (fun x => x == 6) 1 ((kindsOf nodes kl).drop (0 + R0))) (w : World)
  (hK : Kd.C (Kd.int .i64) w Ak kl.length kl) (hT : Kd.C k24 w At nodes.length nodes) (hck : kl.length ≤ ck) (hct : nodes.length ≤ ct) (hkl : kl.length ≤ 1000) (hnl : nodes.length ≤ 4000) (hin : ∀ x ∈ kl,0 ≤ x ∧ x < nodes.length) :
  Calls Try.prog 33 #[.agg #[.slice At nodes.length ct,.int .i64 root],nodeV 12 n at_ tx Ak kl.length ck] w fun e w' => e = .returned (.bool (((R0 : Int) == 1) && ((R1 : Int) == 1) && (((0 + R0 + R1 : Nat) : Int) == (kl.length : Int)))) ∧ Below w.heap.size w w':=by
 have hmf : ∀ (fn : Fn) (first cap : Array Value) (w : World),(Instr.makeFunc fn first cap).run Try.prog w = .ok (.func fn first cap) w:=fun _ _ _ _ => rfl
 have HKS:=Lib.hid (KS.start (k:=12) (n:=n) (at_:=at_) (tx:=tx) (root:=root) hK hT hck hct hkl hnl hin)
 have HR0:=Lib.hid h0
 have HR1:=Lib.hid h1
 clear hK hT hin h0 h1
 unfold nodeV
 go_enter Try.func33,Try.ntmps33
 go_wp2_with fail
 obtain ⟨W0,hW0⟩ : ∃ W_,W_ = ((w.alloc (.cells #[.slice At nodes.length ct,.int .i64 root] 30)).alloc (.cells #[.int .i64 12,.int .i64 n,.int .i64 at_,.string tx,.slice Ak kl.length ck] 24)).alloc (.cells #[.int .i64 0] 3):=⟨_,rfl⟩
 rw [← hW0] at HKS ⊢
 have S0:=HKS
 clear hW0 HKS
 refine (zBm _ 1 (by decide) (by decide) S0.out).mono ?_
 rintro e_ W1 ⟨R_,rfl,HR_,S1⟩
 obtain rfl : R0 = R_:=HR0.out.trans HR_.out.symm
 clear HR_ S0
 by_cases hc0 : R0 = 1
 ·have q0 : ((R0 : Int) == 1) = true:=by simp [hc0]
  go_wp2_with fail
  refine (is_new 6 W1).mono ?_
  rintro e_ w_ ⟨rfl,rfl⟩
  go_wp2_with fail
  refine (take_is _ 6 1 (by decide) (by decide) S1.out).mono ?_
  rintro e_ W2 ⟨R_,rfl,HR_,S2⟩
  obtain rfl : R1 = R_:=HR1.out.trans HR_.out.symm
  clear HR_ S1
  by_cases hc1 : R1 = 1
  ·have q1 : ((R1 : Int) == 1) = true:=by simp [hc1]
   go_wp2_with fail
   obtain ⟨iN,hiN⟩ : ∃ i_ : Nat,i_ = 0 + R0 + R1:=⟨_,rfl⟩
   rw [← hiN] at S2
   have HIN:=Lib.hid hiN
   clear hiN
   refine (end_st _ S2.out).mono ?_
   rintro e_ w_ ⟨rfl,rfl⟩
   go_wp2_with fail
   go_ret
   exact ⟨by rw [q0,q1,← HIN.out]; rfl,S2.out.2.2.1⟩
  ·have q1 : ((R1 : Int) == 1) = false:=by simp; omega
   go_wp2_with fail
   go_ret
   exact ⟨by rw [q0,q1]; rfl,S2.out.2.2.1⟩
 ·have q0 : ((R0 : Int) == 1) = false:=by simp; omega
  go_wp2_with fail
  go_ret
  exact ⟨by rw [q0]; rfl,S1.out.2.2.1⟩
set_option maxRecDepth 100000 in
set_option maxHeartbeats 16000000 in
theorem kids_16 (n at_ : Int) (tx : ByteArray) (Ak : Option Addr) (ck : Nat) (kl : List Int) (At : Option Addr) (ct : Nat) (nodes : List S24) (root : Int) (R0 : Nat) (h0 : R0 = runF (fun x => x == 6) 2 ((kindsOf nodes kl).drop (0))) (w : World)
  (hK : Kd.C (Kd.int .i64) w Ak kl.length kl) (hT : Kd.C k24 w At nodes.length nodes) (hck : kl.length ≤ ck) (hct : nodes.length ≤ ct) (hkl : kl.length ≤ 1000) (hnl : nodes.length ≤ 4000) (hin : ∀ x ∈ kl,0 ≤ x ∧ x < nodes.length) :
  Calls Try.prog 33 #[.agg #[.slice At nodes.length ct,.int .i64 root],nodeV 16 n at_ tx Ak kl.length ck] w fun e w' => e = .returned (.bool (((R0 : Int) == 2) && (((0 + R0 : Nat) : Int) == (kl.length : Int)))) ∧ Below w.heap.size w w':=by
 have hmf : ∀ (fn : Fn) (first cap : Array Value) (w : World),(Instr.makeFunc fn first cap).run Try.prog w = .ok (.func fn first cap) w:=fun _ _ _ _ => rfl
 have HKS:=Lib.hid (KS.start (k:=16) (n:=n) (at_:=at_) (tx:=tx) (root:=root) hK hT hck hct hkl hnl hin)
 have HR0:=Lib.hid h0
 clear hK hT hin h0
 unfold nodeV
 go_enter Try.func33,Try.ntmps33
 go_wp2_with fail
 obtain ⟨W0,hW0⟩ : ∃ W_,W_ = ((w.alloc (.cells #[.slice At nodes.length ct,.int .i64 root] 30)).alloc (.cells #[.int .i64 16,.int .i64 n,.int .i64 at_,.string tx,.slice Ak kl.length ck] 24)).alloc (.cells #[.int .i64 0] 3):=⟨_,rfl⟩
 rw [← hW0] at HKS ⊢
 have S0:=HKS
 clear hW0 HKS
 refine (is_new 6 W0).mono ?_
 rintro e_ w_ ⟨rfl,rfl⟩
 go_wp2_with fail
 refine (take_is _ 6 2 (by decide) (by decide) S0.out).mono ?_
 rintro e_ W1 ⟨R_,rfl,HR_,S1⟩
 obtain rfl : R0 = R_:=HR0.out.trans HR_.out.symm
 clear HR_ S0
 by_cases hc0 : R0 = 2
 ·have q0 : ((R0 : Int) == 2) = true:=by simp [hc0]
  go_wp2_with fail
  obtain ⟨iN,hiN⟩ : ∃ i_ : Nat,i_ = 0 + R0:=⟨_,rfl⟩
  rw [← hiN] at S1
  have HIN:=Lib.hid hiN
  clear hiN
  refine (end_st _ S1.out).mono ?_
  rintro e_ w_ ⟨rfl,rfl⟩
  go_wp2_with fail
  go_ret
  exact ⟨by rw [q0,← HIN.out]; rfl,S1.out.2.2.1⟩
 ·have q0 : ((R0 : Int) == 2) = false:=by simp; omega
  go_wp2_with fail
  go_ret
  exact ⟨by rw [q0]; rfl,S1.out.2.2.1⟩
set_option maxRecDepth 100000 in
set_option maxHeartbeats 16000000 in
theorem kids_5 (n at_ : Int) (tx : ByteArray) (Ak : Option Addr) (ck : Nat) (kl : List Int) (At : Option Addr) (ct : Nat) (nodes : List S24) (root : Int) (w : World)
  (hK : Kd.C (Kd.int .i64) w Ak kl.length kl) (hT : Kd.C k24 w At nodes.length nodes) (hck : kl.length ≤ ck) (hct : nodes.length ≤ ct) (hkl : kl.length ≤ 1000) (hnl : nodes.length ≤ 4000) (hin : ∀ x ∈ kl,0 ≤ x ∧ x < nodes.length) :
  Calls Try.prog 33 #[.agg #[.slice At nodes.length ct,.int .i64 root],nodeV 5 n at_ tx Ak kl.length ck] w fun e w' => e = .returned (.bool ((((0 : Nat) : Int) == (kl.length : Int)))) ∧ Below w.heap.size w w':=by
 have hmf : ∀ (fn : Fn) (first cap : Array Value) (w : World),(Instr.makeFunc fn first cap).run Try.prog w = .ok (.func fn first cap) w:=fun _ _ _ _ => rfl
 have HKS:=Lib.hid (KS.start (k:=5) (n:=n) (at_:=at_) (tx:=tx) (root:=root) hK hT hck hct hkl hnl hin)
 clear hK hT hin
 unfold nodeV
 go_enter Try.func33,Try.ntmps33
 go_wp2_with fail
 obtain ⟨W0,hW0⟩ : ∃ W_,W_ = ((w.alloc (.cells #[.slice At nodes.length ct,.int .i64 root] 30)).alloc (.cells #[.int .i64 5,.int .i64 n,.int .i64 at_,.string tx,.slice Ak kl.length ck] 24)).alloc (.cells #[.int .i64 0] 3):=⟨_,rfl⟩
 rw [← hW0] at HKS ⊢
 have S0:=HKS
 clear hW0 HKS
 obtain ⟨iN,hiN⟩ : ∃ i_ : Nat,i_ = 0:=⟨_,rfl⟩
 have S0_ : Hid (KS w 5 n at_ tx Ak ck kl At ct nodes root W0 iN):=Lib.hid (by rw [hiN]; exact S0.out)
 clear S0
 have S0:=S0_
 clear S0_
 have HIN:=Lib.hid hiN
 clear hiN
 refine (end_st _ S0.out).mono ?_
 rintro e_ w_ ⟨rfl,rfl⟩
 go_wp2_with fail
 go_ret
 exact ⟨by rw [← HIN.out]; rfl,S0.out.2.2.1⟩
set_option maxRecDepth 100000 in
set_option maxHeartbeats 16000000 in
theorem kids_20 (n at_ : Int) (tx : ByteArray) (Ak : Option Addr) (ck : Nat) (kl : List Int) (At : Option Addr) (ct : Nat) (nodes : List S24) (root : Int) (w : World)
  (hK : Kd.C (Kd.int .i64) w Ak kl.length kl) (hT : Kd.C k24 w At nodes.length nodes) (hck : kl.length ≤ ck) (hct : nodes.length ≤ ct) (hkl : kl.length ≤ 1000) (hnl : nodes.length ≤ 4000) (hin : ∀ x ∈ kl,0 ≤ x ∧ x < nodes.length) :
  Calls Try.prog 33 #[.agg #[.slice At nodes.length ct,.int .i64 root],nodeV 20 n at_ tx Ak kl.length ck] w fun e w' => e = .returned (.bool ((((0 : Nat) : Int) == (kl.length : Int)))) ∧ Below w.heap.size w w':=by
 have hmf : ∀ (fn : Fn) (first cap : Array Value) (w : World),(Instr.makeFunc fn first cap).run Try.prog w = .ok (.func fn first cap) w:=fun _ _ _ _ => rfl
 have HKS:=Lib.hid (KS.start (k:=20) (n:=n) (at_:=at_) (tx:=tx) (root:=root) hK hT hck hct hkl hnl hin)
 clear hK hT hin
 unfold nodeV
 go_enter Try.func33,Try.ntmps33
 go_wp2_with fail
 obtain ⟨W0,hW0⟩ : ∃ W_,W_ = ((w.alloc (.cells #[.slice At nodes.length ct,.int .i64 root] 30)).alloc (.cells #[.int .i64 20,.int .i64 n,.int .i64 at_,.string tx,.slice Ak kl.length ck] 24)).alloc (.cells #[.int .i64 0] 3):=⟨_,rfl⟩
 rw [← hW0] at HKS ⊢
 have S0:=HKS
 clear hW0 HKS
 obtain ⟨iN,hiN⟩ : ∃ i_ : Nat,i_ = 0:=⟨_,rfl⟩
 have S0_ : Hid (KS w 20 n at_ tx Ak ck kl At ct nodes root W0 iN):=Lib.hid (by rw [hiN]; exact S0.out)
 clear S0
 have S0:=S0_
 clear S0_
 have HIN:=Lib.hid hiN
 clear hiN
 refine (end_st _ S0.out).mono ?_
 rintro e_ w_ ⟨rfl,rfl⟩
 go_wp2_with fail
 go_ret
 exact ⟨by rw [← HIN.out]; rfl,S0.out.2.2.1⟩
set_option maxRecDepth 100000 in
set_option maxHeartbeats 16000000 in
theorem kids_24 (n at_ : Int) (tx : ByteArray) (Ak : Option Addr) (ck : Nat) (kl : List Int) (At : Option Addr) (ct : Nat) (nodes : List S24) (root : Int) (w : World)
  (hK : Kd.C (Kd.int .i64) w Ak kl.length kl) (hT : Kd.C k24 w At nodes.length nodes) (hck : kl.length ≤ ck) (hct : nodes.length ≤ ct) (hkl : kl.length ≤ 1000) (hnl : nodes.length ≤ 4000) (hin : ∀ x ∈ kl,0 ≤ x ∧ x < nodes.length) :
  Calls Try.prog 33 #[.agg #[.slice At nodes.length ct,.int .i64 root],nodeV 24 n at_ tx Ak kl.length ck] w fun e w' => e = .returned (.bool ((((0 : Nat) : Int) == (kl.length : Int)))) ∧ Below w.heap.size w w':=by
 have hmf : ∀ (fn : Fn) (first cap : Array Value) (w : World),(Instr.makeFunc fn first cap).run Try.prog w = .ok (.func fn first cap) w:=fun _ _ _ _ => rfl
 have HKS:=Lib.hid (KS.start (k:=24) (n:=n) (at_:=at_) (tx:=tx) (root:=root) hK hT hck hct hkl hnl hin)
 clear hK hT hin
 unfold nodeV
 go_enter Try.func33,Try.ntmps33
 go_wp2_with fail
 obtain ⟨W0,hW0⟩ : ∃ W_,W_ = ((w.alloc (.cells #[.slice At nodes.length ct,.int .i64 root] 30)).alloc (.cells #[.int .i64 24,.int .i64 n,.int .i64 at_,.string tx,.slice Ak kl.length ck] 24)).alloc (.cells #[.int .i64 0] 3):=⟨_,rfl⟩
 rw [← hW0] at HKS ⊢
 have S0:=HKS
 clear hW0 HKS
 obtain ⟨iN,hiN⟩ : ∃ i_ : Nat,i_ = 0:=⟨_,rfl⟩
 have S0_ : Hid (KS w 24 n at_ tx Ak ck kl At ct nodes root W0 iN):=Lib.hid (by rw [hiN]; exact S0.out)
 clear S0
 have S0:=S0_
 clear S0_
 have HIN:=Lib.hid hiN
 clear hiN
 refine (end_st _ S0.out).mono ?_
 rintro e_ w_ ⟨rfl,rfl⟩
 go_wp2_with fail
 go_ret
 exact ⟨by rw [← HIN.out]; rfl,S0.out.2.2.1⟩
set_option maxRecDepth 100000 in
set_option maxHeartbeats 16000000 in
theorem kids_6 (n at_ : Int) (tx : ByteArray) (Ak : Option Addr) (ck : Nat) (kl : List Int) (At : Option Addr) (ct : Nat) (nodes : List S24) (root : Int) (R0 : Nat) (h0 : R0 = runF stB 4000 ((kindsOf nodes kl).drop (0))) (w : World)
  (hK : Kd.C (Kd.int .i64) w Ak kl.length kl) (hT : Kd.C k24 w At nodes.length nodes) (hck : kl.length ≤ ck) (hct : nodes.length ≤ ct) (hkl : kl.length ≤ 1000) (hnl : nodes.length ≤ 4000) (hin : ∀ x ∈ kl,0 ≤ x ∧ x < nodes.length) :
  Calls Try.prog 33 #[.agg #[.slice At nodes.length ct,.int .i64 root],nodeV 6 n at_ tx Ak kl.length ck] w fun e w' => e = .returned (.bool ((((0 + R0 : Nat) : Int) == (kl.length : Int)))) ∧ Below w.heap.size w w':=by
 have hmf : ∀ (fn : Fn) (first cap : Array Value) (w : World),(Instr.makeFunc fn first cap).run Try.prog w = .ok (.func fn first cap) w:=fun _ _ _ _ => rfl
 have HKS:=Lib.hid (KS.start (k:=6) (n:=n) (at_:=at_) (tx:=tx) (root:=root) hK hT hck hct hkl hnl hin)
 have HR0:=Lib.hid h0
 clear hK hT hin h0
 unfold nodeV
 go_enter Try.func33,Try.ntmps33
 go_wp2_with fail
 obtain ⟨W0,hW0⟩ : ∃ W_,W_ = ((w.alloc (.cells #[.slice At nodes.length ct,.int .i64 root] 30)).alloc (.cells #[.int .i64 6,.int .i64 n,.int .i64 at_,.string tx,.slice Ak kl.length ck] 24)).alloc (.cells #[.int .i64 0] 3):=⟨_,rfl⟩
 rw [← hW0] at HKS ⊢
 have S0:=HKS
 clear hW0 HKS
 refine (take_st45 _ 4000 (by decide) (by decide) S0.out).mono ?_
 rintro e_ W1 ⟨R_,rfl,HR_,S1⟩
 obtain rfl : R0 = R_:=HR0.out.trans HR_.out.symm
 clear HR_ S0
 go_wp2_with fail
 obtain ⟨iN,hiN⟩ : ∃ i_ : Nat,i_ = 0 + R0:=⟨_,rfl⟩
 rw [← hiN] at S1
 have HIN:=Lib.hid hiN
 clear hiN
 refine (end_st _ S1.out).mono ?_
 rintro e_ w_ ⟨rfl,rfl⟩
 go_wp2_with fail
 go_ret
 exact ⟨by rw [← HIN.out]; rfl,S1.out.2.2.1⟩
set_option maxRecDepth 100000 in
set_option maxHeartbeats 16000000 in
theorem kids_17 (n at_ : Int) (tx : ByteArray) (Ak : Option Addr) (ck : Nat) (kl : List Int) (At : Option Addr) (ct : Nat) (nodes : List S24) (root : Int) (R0 : Nat) (h0 : R0 = runF exB 1 ((kindsOf nodes kl).drop (0))) (w : World)
  (hK : Kd.C (Kd.int .i64) w Ak kl.length kl) (hT : Kd.C k24 w At nodes.length nodes) (hck : kl.length ≤ ck) (hct : nodes.length ≤ ct) (hkl : kl.length ≤ 1000) (hnl : nodes.length ≤ 4000) (hin : ∀ x ∈ kl,0 ≤ x ∧ x < nodes.length) :
  Calls Try.prog 33 #[.agg #[.slice At nodes.length ct,.int .i64 root],nodeV 17 n at_ tx Ak kl.length ck] w fun e w' => e = .returned (.bool (((R0 : Int) == 1) && (((0 + R0 : Nat) : Int) == (kl.length : Int)))) ∧ Below w.heap.size w w':=by
 have hmf : ∀ (fn : Fn) (first cap : Array Value) (w : World),(Instr.makeFunc fn first cap).run Try.prog w = .ok (.func fn first cap) w:=fun _ _ _ _ => rfl
 have HKS:=Lib.hid (KS.start (k:=17) (n:=n) (at_:=at_) (tx:=tx) (root:=root) hK hT hck hct hkl hnl hin)
 have HR0:=Lib.hid h0
 clear hK hT hin h0
 unfold nodeV
 go_enter Try.func33,Try.ntmps33
 go_wp2_with fail
 obtain ⟨W0,hW0⟩ : ∃ W_,W_ = ((w.alloc (.cells #[.slice At nodes.length ct,.int .i64 root] 30)).alloc (.cells #[.int .i64 17,.int .i64 n,.int .i64 at_,.string tx,.slice Ak kl.length ck] 24)).alloc (.cells #[.int .i64 0] 3):=⟨_,rfl⟩
 rw [← hW0] at HKS ⊢
 have S0:=HKS
 clear hW0 HKS
 refine (zBm _ 1 (by decide) (by decide) S0.out).mono ?_
 rintro e_ W1 ⟨R_,rfl,HR_,S1⟩
 obtain rfl : R0 = R_:=HR0.out.trans HR_.out.symm
 clear HR_ S0
 by_cases hc0 : R0 = 1
 ·have q0 : ((R0 : Int) == 1) = true:=by simp [hc0]
  go_wp2_with fail
  obtain ⟨iN,hiN⟩ : ∃ i_ : Nat,i_ = 0 + R0:=⟨_,rfl⟩
  rw [← hiN] at S1
  have HIN:=Lib.hid hiN
  clear hiN
  refine (end_st _ S1.out).mono ?_
  rintro e_ w_ ⟨rfl,rfl⟩
  go_wp2_with fail
  go_ret
  exact ⟨by rw [q0,← HIN.out]; rfl,S1.out.2.2.1⟩
 ·have q0 : ((R0 : Int) == 1) = false:=by simp; omega
  go_wp2_with fail
  go_ret
  exact ⟨by rw [q0]; rfl,S1.out.2.2.1⟩
set_option maxRecDepth 100000 in
set_option maxHeartbeats 16000000 in
theorem kids_8 (n at_ : Int) (tx : ByteArray) (Ak : Option Addr) (ck : Nat) (kl : List Int) (At : Option Addr) (ct : Nat) (nodes : List S24) (root : Int) (R0 : Nat) (h0 : R0 = runF exB 2 ((kindsOf nodes kl).drop (0))) (w : World)
  (hK : Kd.C (Kd.int .i64) w Ak kl.length kl) (hT : Kd.C k24 w At nodes.length nodes) (hck : kl.length ≤ ck) (hct : nodes.length ≤ ct) (hkl : kl.length ≤ 1000) (hnl : nodes.length ≤ 4000) (hin : ∀ x ∈ kl,0 ≤ x ∧ x < nodes.length) :
  Calls Try.prog 33 #[.agg #[.slice At nodes.length ct,.int .i64 root],nodeV 8 n at_ tx Ak kl.length ck] w fun e w' => e = .returned (.bool (((R0 : Int) == 2) && (((0 + R0 : Nat) : Int) == (kl.length : Int)))) ∧ Below w.heap.size w w':=by
 have hmf : ∀ (fn : Fn) (first cap : Array Value) (w : World),(Instr.makeFunc fn first cap).run Try.prog w = .ok (.func fn first cap) w:=fun _ _ _ _ => rfl
 have HKS:=Lib.hid (KS.start (k:=8) (n:=n) (at_:=at_) (tx:=tx) (root:=root) hK hT hck hct hkl hnl hin)
 have HR0:=Lib.hid h0
 clear hK hT hin h0
 unfold nodeV
 go_enter Try.func33,Try.ntmps33
 go_wp2_with fail
 obtain ⟨W0,hW0⟩ : ∃ W_,W_ = ((w.alloc (.cells #[.slice At nodes.length ct,.int .i64 root] 30)).alloc (.cells #[.int .i64 8,.int .i64 n,.int .i64 at_,.string tx,.slice Ak kl.length ck] 24)).alloc (.cells #[.int .i64 0] 3):=⟨_,rfl⟩
 rw [← hW0] at HKS ⊢
 have S0:=HKS
 clear hW0 HKS
 refine (zBm _ 2 (by decide) (by decide) S0.out).mono ?_
 rintro e_ W1 ⟨R_,rfl,HR_,S1⟩
 obtain rfl : R0 = R_:=HR0.out.trans HR_.out.symm
 clear HR_ S0
 by_cases hc0 : R0 = 2
 ·have q0 : ((R0 : Int) == 2) = true:=by simp [hc0]
  go_wp2_with fail
  obtain ⟨iN,hiN⟩ : ∃ i_ : Nat,i_ = 0 + R0:=⟨_,rfl⟩
  rw [← hiN] at S1
  have HIN:=Lib.hid hiN
  clear hiN
  refine (end_st _ S1.out).mono ?_
  rintro e_ w_ ⟨rfl,rfl⟩
  go_wp2_with fail
  go_ret
  exact ⟨by rw [q0,← HIN.out]; rfl,S1.out.2.2.1⟩
 ·have q0 : ((R0 : Int) == 2) = false:=by simp; omega
  go_wp2_with fail
  go_ret
  exact ⟨by rw [q0]; rfl,S1.out.2.2.1⟩
set_option maxRecDepth 100000 in
set_option maxHeartbeats 16000000 in
theorem kids_10 (n at_ : Int) (tx : ByteArray) (Ak : Option Addr) (ck : Nat) (kl : List Int) (At : Option Addr) (ct : Nat) (nodes : List S24) (root : Int) (R0 : Nat) (h0 : R0 = runF (fun x => x == 18) 1 ((kindsOf nodes kl).drop (0))) (R1 : Nat) (h1 : R1 = runF exB 1 ((kindsOf nodes kl).drop (0 + R0))) (w : World)
  (hK : Kd.C (Kd.int .i64) w Ak kl.length kl) (hT : Kd.C k24 w At nodes.length nodes) (hck : kl.length ≤ ck) (hct : nodes.length ≤ ct) (hkl : kl.length ≤ 1000) (hnl : nodes.length ≤ 4000) (hin : ∀ x ∈ kl,0 ≤ x ∧ x < nodes.length) :
  Calls Try.prog 33 #[.agg #[.slice At nodes.length ct,.int .i64 root],nodeV 10 n at_ tx Ak kl.length ck] w fun e w' => e = .returned (.bool (((R0 : Int) == 1) && ((R1 : Int) == 1) && (((0 + R0 + R1 : Nat) : Int) == (kl.length : Int)))) ∧ Below w.heap.size w w':=by
 have hmf : ∀ (fn : Fn) (first cap : Array Value) (w : World),(Instr.makeFunc fn first cap).run Try.prog w = .ok (.func fn first cap) w:=fun _ _ _ _ => rfl
 have HKS:=Lib.hid (KS.start (k:=10) (n:=n) (at_:=at_) (tx:=tx) (root:=root) hK hT hck hct hkl hnl hin)
 have HR0:=Lib.hid h0
 have HR1:=Lib.hid h1
 clear hK hT hin h0 h1
 unfold nodeV
 go_enter Try.func33,Try.ntmps33
 go_wp2_with fail
 obtain ⟨W0,hW0⟩ : ∃ W_,W_ = ((w.alloc (.cells #[.slice At nodes.length ct,.int .i64 root] 30)).alloc (.cells #[.int .i64 10,.int .i64 n,.int .i64 at_,.string tx,.slice Ak kl.length ck] 24)).alloc (.cells #[.int .i64 0] 3):=⟨_,rfl⟩
 rw [← hW0] at HKS ⊢
 have S0:=HKS
 clear hW0 HKS
 refine (is_new 18 W0).mono ?_
 rintro e_ w_ ⟨rfl,rfl⟩
 go_wp2_with fail
 refine (take_is _ 18 1 (by decide) (by decide) S0.out).mono ?_
 rintro e_ W1 ⟨R_,rfl,HR_,S1⟩
 obtain rfl : R0 = R_:=HR0.out.trans HR_.out.symm
 clear HR_ S0
 by_cases hc0 : R0 = 1
 ·have q0 : ((R0 : Int) == 1) = true:=by simp [hc0]
  go_wp2_with fail
  refine (zBm _ 1 (by decide) (by decide) S1.out).mono ?_
  rintro e_ W2 ⟨R_,rfl,HR_,S2⟩
  obtain rfl : R1 = R_:=HR1.out.trans HR_.out.symm
  clear HR_ S1
  by_cases hc1 : R1 = 1
  ·have q1 : ((R1 : Int) == 1) = true:=by simp [hc1]
   go_wp2_with fail
   obtain ⟨iN,hiN⟩ : ∃ i_ : Nat,i_ = 0 + R0 + R1:=⟨_,rfl⟩
   rw [← hiN] at S2
   have HIN:=Lib.hid hiN
   clear hiN
   refine (end_st _ S2.out).mono ?_
   rintro e_ w_ ⟨rfl,rfl⟩
   go_wp2_with fail
   go_ret
   exact ⟨by rw [q0,q1,← HIN.out]; rfl,S2.out.2.2.1⟩
  ·have q1 : ((R1 : Int) == 1) = false:=by simp; omega
   go_wp2_with fail
   go_ret
   exact ⟨by rw [q0,q1]; rfl,S2.out.2.2.1⟩
 ·have q0 : ((R0 : Int) == 1) = false:=by simp; omega
  go_wp2_with fail
  go_ret
  exact ⟨by rw [q0]; rfl,S1.out.2.2.1⟩
set_option maxRecDepth 100000 in
set_option maxHeartbeats 16000000 in
theorem kids_13 (n at_ : Int) (tx : ByteArray) (Ak : Option Addr) (ck : Nat) (kl : List Int) (At : Option Addr) (ct : Nat) (nodes : List S24) (root : Int) (R0 : Nat) (h0 : R0 = runF (fun x => x == 19) 1 ((kindsOf nodes kl).drop (0))) (R1 : Nat) (h1 : R1 = runF exB 4000 ((kindsOf nodes kl).drop (0 + R0))) (w : World)
  (hK : Kd.C (Kd.int .i64) w Ak kl.length kl) (hT : Kd.C k24 w At nodes.length nodes) (hck : kl.length ≤ ck) (hct : nodes.length ≤ ct) (hkl : kl.length ≤ 1000) (hnl : nodes.length ≤ 4000) (hin : ∀ x ∈ kl,0 ≤ x ∧ x < nodes.length) :
  Calls Try.prog 33 #[.agg #[.slice At nodes.length ct,.int .i64 root],nodeV 13 n at_ tx Ak kl.length ck] w fun e w' => e = .returned (.bool (((R0 : Int) == 1) && (((0 + R0 + R1 : Nat) : Int) == (kl.length : Int)))) ∧ Below w.heap.size w w':=by
 have hmf : ∀ (fn : Fn) (first cap : Array Value) (w : World),(Instr.makeFunc fn first cap).run Try.prog w = .ok (.func fn first cap) w:=fun _ _ _ _ => rfl
 have HKS:=Lib.hid (KS.start (k:=13) (n:=n) (at_:=at_) (tx:=tx) (root:=root) hK hT hck hct hkl hnl hin)
 have HR0:=Lib.hid h0
 have HR1:=Lib.hid h1
 clear hK hT hin h0 h1
 unfold nodeV
 go_enter Try.func33,Try.ntmps33
 go_wp2_with fail
 obtain ⟨W0,hW0⟩ : ∃ W_,W_ = ((w.alloc (.cells #[.slice At nodes.length ct,.int .i64 root] 30)).alloc (.cells #[.int .i64 13,.int .i64 n,.int .i64 at_,.string tx,.slice Ak kl.length ck] 24)).alloc (.cells #[.int .i64 0] 3):=⟨_,rfl⟩
 rw [← hW0] at HKS ⊢
 have S0:=HKS
 clear hW0 HKS
 refine (is_new 19 W0).mono ?_
 rintro e_ w_ ⟨rfl,rfl⟩
 go_wp2_with fail
 refine (take_is _ 19 1 (by decide) (by decide) S0.out).mono ?_
 rintro e_ W1 ⟨R_,rfl,HR_,S1⟩
 obtain rfl : R0 = R_:=HR0.out.trans HR_.out.symm
 clear HR_ S0
 go_wp2_with fail
 refine (zBm _ 4000 (by decide) (by decide) S1.out).mono ?_
 rintro e_ W2 ⟨R_,rfl,HR_,S2⟩
 obtain rfl : R1 = R_:=HR1.out.trans HR_.out.symm
 clear HR_ S1
 obtain ⟨iN,hiN⟩ : ∃ i_ : Nat,i_ = 0 + R0 + R1:=⟨_,rfl⟩
 rw [← hiN] at S2
 have HIN:=Lib.hid hiN
 clear hiN
 by_cases hl : R0 = 1
 ·have ql : ((R0 : Int) == 1) = true:=by simp [hl]
  go_wp2_with fail
  refine (end_st _ S2.out).mono ?_
  rintro e_ w_ ⟨rfl,rfl⟩
  go_wp2_with fail
  go_ret
  exact ⟨by rw [ql,Bool.true_and,← HIN.out]; rfl,S2.out.2.2.1⟩
 ·have ql : ((R0 : Int) == 1) = false:=by simp; omega
  go_wp2_with fail
  go_ret
  exact ⟨by rw [ql,Bool.false_and]; rfl,S2.out.2.2.1⟩
set_option maxRecDepth 100000 in
set_option maxHeartbeats 16000000 in
theorem kids_2 (n at_ : Int) (tx : ByteArray) (Ak : Option Addr) (ck : Nat) (kl : List Int) (At : Option Addr) (ct : Nat) (nodes : List S24) (root : Int) (w : World)
  (hK : Kd.C (Kd.int .i64) w Ak kl.length kl) (hT : Kd.C k24 w At nodes.length nodes) (hck : kl.length ≤ ck) (hct : nodes.length ≤ ct) (hkl : kl.length ≤ 1000) (hnl : nodes.length ≤ 4000) (hin : ∀ x ∈ kl,0 ≤ x ∧ x < nodes.length) :
  Calls Try.prog 33 #[.agg #[.slice At nodes.length ct,.int .i64 root],nodeV 2 n at_ tx Ak kl.length ck] w fun e w' => e = .returned (.bool ((((0 : Nat) : Int) == (kl.length : Int)))) ∧ Below w.heap.size w w':=by
 have hmf : ∀ (fn : Fn) (first cap : Array Value) (w : World),(Instr.makeFunc fn first cap).run Try.prog w = .ok (.func fn first cap) w:=fun _ _ _ _ => rfl
 have HKS:=Lib.hid (KS.start (k:=2) (n:=n) (at_:=at_) (tx:=tx) (root:=root) hK hT hck hct hkl hnl hin)
 clear hK hT hin
 unfold nodeV
 go_enter Try.func33,Try.ntmps33
 go_wp2_with fail
 obtain ⟨W0,hW0⟩ : ∃ W_,W_ = ((w.alloc (.cells #[.slice At nodes.length ct,.int .i64 root] 30)).alloc (.cells #[.int .i64 2,.int .i64 n,.int .i64 at_,.string tx,.slice Ak kl.length ck] 24)).alloc (.cells #[.int .i64 0] 3):=⟨_,rfl⟩
 rw [← hW0] at HKS ⊢
 have S0:=HKS
 clear hW0 HKS
 obtain ⟨iN,hiN⟩ : ∃ i_ : Nat,i_ = 0:=⟨_,rfl⟩
 have S0_ : Hid (KS w 2 n at_ tx Ak ck kl At ct nodes root W0 iN):=Lib.hid (by rw [hiN]; exact S0.out)
 clear S0
 have S0:=S0_
 clear S0_
 have HIN:=Lib.hid hiN
 clear hiN
 refine (end_st _ S0.out).mono ?_
 rintro e_ w_ ⟨rfl,rfl⟩
 go_wp2_with fail
 go_ret
 exact ⟨by rw [← HIN.out]; rfl,S0.out.2.2.1⟩
set_option maxRecDepth 100000 in
set_option maxHeartbeats 16000000 in
theorem kids_18 (n at_ : Int) (tx : ByteArray) (Ak : Option Addr) (ck : Nat) (kl : List Int) (At : Option Addr) (ct : Nat) (nodes : List S24) (root : Int) (w : World)
  (hK : Kd.C (Kd.int .i64) w Ak kl.length kl) (hT : Kd.C k24 w At nodes.length nodes) (hck : kl.length ≤ ck) (hct : nodes.length ≤ ct) (hkl : kl.length ≤ 1000) (hnl : nodes.length ≤ 4000) (hin : ∀ x ∈ kl,0 ≤ x ∧ x < nodes.length) :
  Calls Try.prog 33 #[.agg #[.slice At nodes.length ct,.int .i64 root],nodeV 18 n at_ tx Ak kl.length ck] w fun e w' => e = .returned (.bool ((((0 : Nat) : Int) == (kl.length : Int)))) ∧ Below w.heap.size w w':=by
 have hmf : ∀ (fn : Fn) (first cap : Array Value) (w : World),(Instr.makeFunc fn first cap).run Try.prog w = .ok (.func fn first cap) w:=fun _ _ _ _ => rfl
 have HKS:=Lib.hid (KS.start (k:=18) (n:=n) (at_:=at_) (tx:=tx) (root:=root) hK hT hck hct hkl hnl hin)
 clear hK hT hin
 unfold nodeV
 go_enter Try.func33,Try.ntmps33
 go_wp2_with fail
 obtain ⟨W0,hW0⟩ : ∃ W_,W_ = ((w.alloc (.cells #[.slice At nodes.length ct,.int .i64 root] 30)).alloc (.cells #[.int .i64 18,.int .i64 n,.int .i64 at_,.string tx,.slice Ak kl.length ck] 24)).alloc (.cells #[.int .i64 0] 3):=⟨_,rfl⟩
 rw [← hW0] at HKS ⊢
 have S0:=HKS
 clear hW0 HKS
 obtain ⟨iN,hiN⟩ : ∃ i_ : Nat,i_ = 0:=⟨_,rfl⟩
 have S0_ : Hid (KS w 18 n at_ tx Ak ck kl At ct nodes root W0 iN):=Lib.hid (by rw [hiN]; exact S0.out)
 clear S0
 have S0:=S0_
 clear S0_
 have HIN:=Lib.hid hiN
 clear hiN
 refine (end_st _ S0.out).mono ?_
 rintro e_ w_ ⟨rfl,rfl⟩
 go_wp2_with fail
 go_ret
 exact ⟨by rw [← HIN.out]; rfl,S0.out.2.2.1⟩
set_option maxRecDepth 100000 in
set_option maxHeartbeats 16000000 in
theorem kids_21 (n at_ : Int) (tx : ByteArray) (Ak : Option Addr) (ck : Nat) (kl : List Int) (At : Option Addr) (ct : Nat) (nodes : List S24) (root : Int) (w : World)
  (hK : Kd.C (Kd.int .i64) w Ak kl.length kl) (hT : Kd.C k24 w At nodes.length nodes) (hck : kl.length ≤ ck) (hct : nodes.length ≤ ct) (hkl : kl.length ≤ 1000) (hnl : nodes.length ≤ 4000) (hin : ∀ x ∈ kl,0 ≤ x ∧ x < nodes.length) :
  Calls Try.prog 33 #[.agg #[.slice At nodes.length ct,.int .i64 root],nodeV 21 n at_ tx Ak kl.length ck] w fun e w' => e = .returned (.bool ((((0 : Nat) : Int) == (kl.length : Int)))) ∧ Below w.heap.size w w':=by
 have hmf : ∀ (fn : Fn) (first cap : Array Value) (w : World),(Instr.makeFunc fn first cap).run Try.prog w = .ok (.func fn first cap) w:=fun _ _ _ _ => rfl
 have HKS:=Lib.hid (KS.start (k:=21) (n:=n) (at_:=at_) (tx:=tx) (root:=root) hK hT hck hct hkl hnl hin)
 clear hK hT hin
 unfold nodeV
 go_enter Try.func33,Try.ntmps33
 go_wp2_with fail
 obtain ⟨W0,hW0⟩ : ∃ W_,W_ = ((w.alloc (.cells #[.slice At nodes.length ct,.int .i64 root] 30)).alloc (.cells #[.int .i64 21,.int .i64 n,.int .i64 at_,.string tx,.slice Ak kl.length ck] 24)).alloc (.cells #[.int .i64 0] 3):=⟨_,rfl⟩
 rw [← hW0] at HKS ⊢
 have S0:=HKS
 clear hW0 HKS
 obtain ⟨iN,hiN⟩ : ∃ i_ : Nat,i_ = 0:=⟨_,rfl⟩
 have S0_ : Hid (KS w 21 n at_ tx Ak ck kl At ct nodes root W0 iN):=Lib.hid (by rw [hiN]; exact S0.out)
 clear S0
 have S0:=S0_
 clear S0_
 have HIN:=Lib.hid hiN
 clear hiN
 refine (end_st _ S0.out).mono ?_
 rintro e_ w_ ⟨rfl,rfl⟩
 go_wp2_with fail
 go_ret
 exact ⟨by rw [← HIN.out]; rfl,S0.out.2.2.1⟩
set_option maxRecDepth 100000 in
set_option maxHeartbeats 16000000 in
theorem kids_25 (n at_ : Int) (tx : ByteArray) (Ak : Option Addr) (ck : Nat) (kl : List Int) (At : Option Addr) (ct : Nat) (nodes : List S24) (root : Int) (w : World)
  (hK : Kd.C (Kd.int .i64) w Ak kl.length kl) (hT : Kd.C k24 w At nodes.length nodes) (hck : kl.length ≤ ck) (hct : nodes.length ≤ ct) (hkl : kl.length ≤ 1000) (hnl : nodes.length ≤ 4000) (hin : ∀ x ∈ kl,0 ≤ x ∧ x < nodes.length) :
  Calls Try.prog 33 #[.agg #[.slice At nodes.length ct,.int .i64 root],nodeV 25 n at_ tx Ak kl.length ck] w fun e w' => e = .returned (.bool ((((0 : Nat) : Int) == (kl.length : Int)))) ∧ Below w.heap.size w w':=by
 have hmf : ∀ (fn : Fn) (first cap : Array Value) (w : World),(Instr.makeFunc fn first cap).run Try.prog w = .ok (.func fn first cap) w:=fun _ _ _ _ => rfl
 have HKS:=Lib.hid (KS.start (k:=25) (n:=n) (at_:=at_) (tx:=tx) (root:=root) hK hT hck hct hkl hnl hin)
 clear hK hT hin
 unfold nodeV
 go_enter Try.func33,Try.ntmps33
 go_wp2_with fail
 obtain ⟨W0,hW0⟩ : ∃ W_,W_ = ((w.alloc (.cells #[.slice At nodes.length ct,.int .i64 root] 30)).alloc (.cells #[.int .i64 25,.int .i64 n,.int .i64 at_,.string tx,.slice Ak kl.length ck] 24)).alloc (.cells #[.int .i64 0] 3):=⟨_,rfl⟩
 rw [← hW0] at HKS ⊢
 have S0:=HKS
 clear hW0 HKS
 obtain ⟨iN,hiN⟩ : ∃ i_ : Nat,i_ = 0:=⟨_,rfl⟩
 have S0_ : Hid (KS w 25 n at_ tx Ak ck kl At ct nodes root W0 iN):=Lib.hid (by rw [hiN]; exact S0.out)
 clear S0
 have S0:=S0_
 clear S0_
 have HIN:=Lib.hid hiN
 clear hiN
 refine (end_st _ S0.out).mono ?_
 rintro e_ w_ ⟨rfl,rfl⟩
 go_wp2_with fail
 go_ret
 exact ⟨by rw [← HIN.out]; rfl,S0.out.2.2.1⟩
attribute [local go_sem] zBa zAY max_two min_two zAR zAT zAZ zAX
def zBd.j0 : Nat → Int → Bool → Int → Int → Int → ByteArray → List Int → Option (Bool)
 | 0,_,_,_,_,_,_,_ => none
 | k + 1,x4,x5,x378000,x378001,x378002,x378003,x378004 => if x5 = true then (if x378001 ≥ 1 then (some (decide (x378001 ≤ 4))) else (some false)) else (if x4 = 3 then (if x378001 ≥ 0 then (some (decide (x378001 ≤ 4))) else (some false)) else (if x4 = 20 then (some (decide (x378001 ≥ 0))) else (if x4 = 21 then (if x378001 = 0 then (some true) else (some (x378001 == 1))) else (some (x378001 == 0)))))
def zBd.f (k : Nat) (a0_0 : Int) (a0_1 : Int) (a0_2 : Int) (a0_3 : ByteArray) (l0_4 : List Int) : Option (Bool):=if a0_0 = 2 then (zBd.j0 k a0_0 (a0_0 == 2) a0_0 a0_1 a0_2 a0_3 l0_4) else (if a0_0 = 4 then (zBd.j0 k a0_0 (a0_0 == 4) a0_0 a0_1 a0_2 a0_3 l0_4) else (zBd.j0 k a0_0 (a0_0 == 5) a0_0 a0_1 a0_2 a0_3 l0_4))
set_option maxHeartbeats 8000000 in
set_option maxRecDepth 100000 in
theorem zBd.calls (k : Nat) (a0_0 : Int) (a0_1 : Int) (a0_2 : Int) (a0_3 : ByteArray) (A0_4 : Option Addr) (c0_4 : Nat) (l0_4 : List Int) (r : Bool) (w : World) (hr0_4 : Kd.C (Kd.int .i64) w A0_4 l0_4.length l0_4) (hc0_4 : l0_4.length ≤ c0_4) (h : zBd.f k a0_0 a0_1 a0_2 a0_3 l0_4 = some r) :
  Calls Try.prog 32 #[.agg #[.int .i64 a0_0,.int .i64 a0_1,.int .i64 a0_2,.string a0_3,.slice A0_4 l0_4.length c0_4]] w fun e w' => e = .returned (.bool r) ∧ Below w.heap.size w w':=by
 have hu24:=Try.underlying24
 have HR0_4:=Aside0.mk hr0_4
 have HC0_4:=Aside0.mk hc0_4
 clear hr0_4 hc0_4
 have HB:=Aside0.mk (Below.refl w.heap.size w)
 have H : (if a0_0 = 2 then (zBd.j0 k a0_0 (a0_0 == 2) a0_0 a0_1 a0_2 a0_3 l0_4) else (if a0_0 = 4 then (zBd.j0 k a0_0 (a0_0 == 4) a0_0 a0_1 a0_2 a0_3 l0_4) else (zBd.j0 k a0_0 (a0_0 == 5) a0_0 a0_1 a0_2 a0_3 l0_4))) = some r:=h
 clear h
 have HC2:=Aside0.mk H
 clear H
 go_enter Try.func32,Try.ntmps32
 go_upto_if 5 with (first | ((with_reducible refine zAM (N:=1) rfl ?_); refine zAL ?hg (N:=1) ?hd (cs:=#[.int .i64 a0_0,.int .i64 a0_1,.int .i64 a0_2,.string a0_3,.slice A0_4 l0_4.length c0_4]) (t:=24) ?hr ?_; (case hd => rfl); (case hg => rfl); (case hr => first | (go_simp; done) | (go_simp; rfl)); intro gb377 hg w3 hbox hb; have n0_:=Aside0.mk (zAm (by repeat (first | (with_reducible first | exact HB.out | apply zAg | apply zAc | apply zAi) | exact HB.out)) hb); have n1_:=Aside0.mk (hbox); have n2_:=Aside0.mk ((by rw [hg]; exact (zAp (by repeat (first | (with_reducible first | exact HB.out | apply zAg | apply zAc | apply zAi) | exact HB.out))) : w.heap.size ≤ gb377)); have n3_:=Aside0.mk ((by rw [hg]; exact (zAp (by repeat (first | (with_reducible first | exact HB.out | apply zAg | apply zAc | apply zAi) | exact HB.out))) : w.heap.size ≤ gb377)); clear HB; have HB:=n0_; have BK377:=n1_; have GW377:=n2_; have GE377:=n3_; clear n0_ n1_ n2_ n3_; clear hb hbox hg; have hcz4_0 : w3.cell? ⟨gb377,0,none⟩ = some (.int .i64 a0_0):=(zAf BK377.out 0).trans rfl; have hcz4_1 : w3.cell? ⟨gb377,1,none⟩ = some (.int .i64 a0_1):=(zAf BK377.out 1).trans rfl; have hcz4_2 : w3.cell? ⟨gb377,2,none⟩ = some (.int .i64 a0_2):=(zAf BK377.out 2).trans rfl; have hcz4_3 : w3.cell? ⟨gb377,3,none⟩ = some (.string a0_3):=(zAf BK377.out 3).trans rfl; have hcz4_4 : w3.cell? ⟨gb377,4,none⟩ = some (.slice A0_4 l0_4.length c0_4):=(zAf BK377.out 4).trans rfl; have hfz4_0:=zAe BK377.out 0; have hfz4_1:=zAe BK377.out 1; have hfz4_2:=zAe BK377.out 2; have hfz4_3:=zAe BK377.out 3; have hfz4_4:=zAe BK377.out 4))
 (try simp only [Act.put,List.setIfInBounds_toArray,List.set_cons_zero,List.set_cons_succ])
 go_cut [5] (fun v5 wc => ∃ (kq : Nat) (x5_1 : Bool),v5 = .bool x5_1 ∧ Aside0 (zBd.j0 kq a0_0 x5_1 a0_0 a0_1 a0_2 a0_3 l0_4 = some r) ∧ Aside0 (kq ≤ k) ∧ Aside0 (wc.heap[gb377]? = some (.cells #[.int .i64 a0_0,.int .i64 a0_1,.int .i64 a0_2,.string a0_3,(.slice A0_4 l0_4.length c0_4)] 24 (0,0))) ∧ Aside0 (Below w.heap.size w wc))
 case first =>
  have H:=HC2.out
  clear HC2
  by_cases c5 : a0_0 = 2
  ·rw [if_pos c5] at H
   have c5b0 : (a0_0 == 2) = true:=beq_iff_eq.mpr c5
   have c5b1 : (a0_0 != 2) = false:=bne_eq_false_iff_eq.mpr c5
   clear c5
   (first | rw [c5b0] | (simp only [i64_w,i32_w]; rw [c5b0]) | skip)
   have H':=Aside0.mk H
   clear H
   go_wp2
   go_meet
   case rel => exact ⟨_,((a0_0 == 2)),(by first | rfl | (simp; done) | (simp [*]; done)),H',⟨by first | omega | exact Nat.le_refl _⟩,⟨by (with_reducible repeat (first | apply zAb | apply zAd | apply zAa)); exact BK377.out⟩,⟨by repeat (first | (with_reducible first | exact HB.out | apply zAg | apply zAc | apply zAi | refine zAh ?_ GE377.out) | exact HB.out)⟩⟩
  ·rw [if_neg c5] at H
   have c5b0 : (a0_0 == 2) = false:=beq_eq_false_iff_ne.mpr c5
   have c5b1 : (a0_0 != 2) = true:=bne_iff_ne.mpr c5
   (first | rw [c5b0] | (simp only [i64_w,i32_w]; rw [c5b0]) | skip)
   by_cases c6 : a0_0 = 4
   ·rw [if_pos c6] at H
    have c6b0 : (a0_0 == 4) = true:=beq_iff_eq.mpr c6
    have c6b1 : (a0_0 != 4) = false:=bne_eq_false_iff_eq.mpr c6
    clear c6
    have H':=Aside0.mk H
    clear H
    go_wp2
    go_meet
    case rel => exact ⟨_,((a0_0 == 4)),(by first | rfl | (simp; done) | (simp [*]; done)),H',⟨by first | omega | exact Nat.le_refl _⟩,⟨by (with_reducible repeat (first | apply zAb | apply zAd | apply zAa)); exact BK377.out⟩,⟨by repeat (first | (with_reducible first | exact HB.out | apply zAg | apply zAc | apply zAi | refine zAh ?_ GE377.out) | exact HB.out)⟩⟩
   ·rw [if_neg c6] at H
    have c6b0 : (a0_0 == 4) = false:=beq_eq_false_iff_ne.mpr c6
    have c6b1 : (a0_0 != 4) = true:=bne_iff_ne.mpr c6
    have H':=Aside0.mk H
    clear H
    go_wp2
    go_meet
    case rel => exact ⟨_,((a0_0 == 5)),(by first | rfl | (simp; done) | (simp [*]; done)),H',⟨by first | omega | exact Nat.le_refl _⟩,⟨by (with_reducible repeat (first | apply zAb | apply zAd | apply zAa)); exact BK377.out⟩,⟨by repeat (first | (with_reducible first | exact HB.out | apply zAg | apply zAc | apply zAi | refine zAh ?_ GE377.out) | exact HB.out)⟩⟩
 case rest =>
  clear HC2
  try clear p2
  try clear c3
  try clear c5
  try clear c5b0
  try clear c5b1
  try clear c6
  try clear c6b0
  try clear c6b1
  try clear hcz4_0
  try clear hcz4_1
  try clear hcz4_2
  try clear hcz4_3
  try clear hcz4_4
  try clear hfz4_0
  try clear hfz4_1
  try clear hfz4_2
  try clear hfz4_3
  try clear hfz4_4
  obtain ⟨kq,x5_1,rfl,HA,HJ1,BK377,HB⟩:=hcut
  cases kq with
  | zero => exact absurd HA.out (by simp [zBd.j0])
  | succ kj1 =>
   have H:=HA.out
   clear HA
   simp only [zBd.j0] at H
   by_cases c7 : x5_1 = true
   ·subst c7
    have H1 : (if a0_1 ≥ 1 then (some (decide (a0_1 ≤ 4))) else (some false)) = some r:=by rw [if_pos rfl] at H; exact H
    clear H
    have H:=H1
    clear H1
    by_cases c8 : a0_1 ≥ 1
    ·rw [if_pos c8] at H
     have c8b0 : decide (1 ≤ a0_1) = true:=decide_eq_true c8
     clear c8
     obtain rfl:=Option.some.inj H
     have hcz9_0 : wc.cell? ⟨gb377,0,none⟩ = some (.int .i64 a0_0):=(zAf BK377.out 0).trans rfl
     have hcz9_1 : wc.cell? ⟨gb377,1,none⟩ = some (.int .i64 a0_1):=(zAf BK377.out 1).trans rfl
     have hcz9_2 : wc.cell? ⟨gb377,2,none⟩ = some (.int .i64 a0_2):=(zAf BK377.out 2).trans rfl
     have hcz9_3 : wc.cell? ⟨gb377,3,none⟩ = some (.string a0_3):=(zAf BK377.out 3).trans rfl
     have hcz9_4 : wc.cell? ⟨gb377,4,none⟩ = some (.slice A0_4 l0_4.length c0_4):=(zAf BK377.out 4).trans rfl
     have hfz9_0:=zAe BK377.out 0
     have hfz9_1:=zAe BK377.out 1
     have hfz9_2:=zAe BK377.out 2
     have hfz9_3:=zAe BK377.out 3
     have hfz9_4:=zAe BK377.out 4
     go_wp2
     go_ret
     exact ⟨by first | rfl | (simp [zAo,zAn] <;> rfl) | (simp [*,zAo,zAn] <;> rfl),by repeat (first | (with_reducible first | exact HB.out | apply zAg | apply zAc | apply zAi | refine zAh ?_ GE377.out) | exact HB.out)⟩
    ·rw [if_neg c8] at H
     have c8b0 : decide (1 ≤ a0_1) = false:=decide_eq_false c8
     clear c8
     obtain rfl:=Option.some.inj H
     have hcz10_0 : wc.cell? ⟨gb377,0,none⟩ = some (.int .i64 a0_0):=(zAf BK377.out 0).trans rfl
     have hcz10_1 : wc.cell? ⟨gb377,1,none⟩ = some (.int .i64 a0_1):=(zAf BK377.out 1).trans rfl
     have hcz10_2 : wc.cell? ⟨gb377,2,none⟩ = some (.int .i64 a0_2):=(zAf BK377.out 2).trans rfl
     have hcz10_3 : wc.cell? ⟨gb377,3,none⟩ = some (.string a0_3):=(zAf BK377.out 3).trans rfl
     have hcz10_4 : wc.cell? ⟨gb377,4,none⟩ = some (.slice A0_4 l0_4.length c0_4):=(zAf BK377.out 4).trans rfl
     have hfz10_0:=zAe BK377.out 0
     have hfz10_1:=zAe BK377.out 1
     have hfz10_2:=zAe BK377.out 2
     have hfz10_3:=zAe BK377.out 3
     have hfz10_4:=zAe BK377.out 4
     go_wp2
     go_ret
     exact ⟨by first | rfl | (simp [zAo,zAn] <;> rfl) | (simp [*,zAo,zAn] <;> rfl),by repeat (first | (with_reducible first | exact HB.out | apply zAg | apply zAc | apply zAi | refine zAh ?_ GE377.out) | exact HB.out)⟩
   ·replace c7:=Bool.eq_false_iff.mpr c7
    subst c7
    have H1 : (if a0_0 = 3 then (if a0_1 ≥ 0 then (some (decide (a0_1 ≤ 4))) else (some false)) else (if a0_0 = 20 then (some (decide (a0_1 ≥ 0))) else (if a0_0 = 21 then (if a0_1 = 0 then (some true) else (some (a0_1 == 1))) else (some (a0_1 == 0))))) = some r:=by rw [if_neg (show ¬ (false = true) by decide)] at H; exact H
    clear H
    have H:=H1
    clear H1
    by_cases c11 : a0_0 = 3
    ·rw [if_pos c11] at H
     have c11b0 : (a0_0 == 3) = true:=beq_iff_eq.mpr c11
     have c11b1 : (a0_0 != 3) = false:=bne_eq_false_iff_eq.mpr c11
     clear c11
     by_cases c12 : a0_1 ≥ 0
     ·rw [if_pos c12] at H
      have c12b0 : decide (0 ≤ a0_1) = true:=decide_eq_true c12
      clear c12
      obtain rfl:=Option.some.inj H
      have hcz13_0 : wc.cell? ⟨gb377,0,none⟩ = some (.int .i64 a0_0):=(zAf BK377.out 0).trans rfl
      have hcz13_1 : wc.cell? ⟨gb377,1,none⟩ = some (.int .i64 a0_1):=(zAf BK377.out 1).trans rfl
      have hcz13_2 : wc.cell? ⟨gb377,2,none⟩ = some (.int .i64 a0_2):=(zAf BK377.out 2).trans rfl
      have hcz13_3 : wc.cell? ⟨gb377,3,none⟩ = some (.string a0_3):=(zAf BK377.out 3).trans rfl
      have hcz13_4 : wc.cell? ⟨gb377,4,none⟩ = some (.slice A0_4 l0_4.length c0_4):=(zAf BK377.out 4).trans rfl
      have hfz13_0:=zAe BK377.out 0
      have hfz13_1:=zAe BK377.out 1
      have hfz13_2:=zAe BK377.out 2
      have hfz13_3:=zAe BK377.out 3
      have hfz13_4:=zAe BK377.out 4
      go_wp2
      go_ret
      exact ⟨by first | rfl | (simp [zAo,zAn] <;> rfl) | (simp [*,zAo,zAn] <;> rfl),by repeat (first | (with_reducible first | exact HB.out | apply zAg | apply zAc | apply zAi | refine zAh ?_ GE377.out) | exact HB.out)⟩
     ·rw [if_neg c12] at H
      have c12b0 : decide (0 ≤ a0_1) = false:=decide_eq_false c12
      clear c12
      obtain rfl:=Option.some.inj H
      have hcz14_0 : wc.cell? ⟨gb377,0,none⟩ = some (.int .i64 a0_0):=(zAf BK377.out 0).trans rfl
      have hcz14_1 : wc.cell? ⟨gb377,1,none⟩ = some (.int .i64 a0_1):=(zAf BK377.out 1).trans rfl
      have hcz14_2 : wc.cell? ⟨gb377,2,none⟩ = some (.int .i64 a0_2):=(zAf BK377.out 2).trans rfl
      have hcz14_3 : wc.cell? ⟨gb377,3,none⟩ = some (.string a0_3):=(zAf BK377.out 3).trans rfl
      have hcz14_4 : wc.cell? ⟨gb377,4,none⟩ = some (.slice A0_4 l0_4.length c0_4):=(zAf BK377.out 4).trans rfl
      have hfz14_0:=zAe BK377.out 0
      have hfz14_1:=zAe BK377.out 1
      have hfz14_2:=zAe BK377.out 2
      have hfz14_3:=zAe BK377.out 3
      have hfz14_4:=zAe BK377.out 4
      go_wp2
      go_ret
      exact ⟨by first | rfl | (simp [zAo,zAn] <;> rfl) | (simp [*,zAo,zAn] <;> rfl),by repeat (first | (with_reducible first | exact HB.out | apply zAg | apply zAc | apply zAi | refine zAh ?_ GE377.out) | exact HB.out)⟩
    ·rw [if_neg c11] at H
     have c11b0 : (a0_0 == 3) = false:=beq_eq_false_iff_ne.mpr c11
     have c11b1 : (a0_0 != 3) = true:=bne_iff_ne.mpr c11
     by_cases c15 : a0_0 = 20
     ·rw [if_pos c15] at H
      have c15b0 : (a0_0 == 20) = true:=beq_iff_eq.mpr c15
      have c15b1 : (a0_0 != 20) = false:=bne_eq_false_iff_eq.mpr c15
      clear c15
      obtain rfl:=Option.some.inj H
      have hcz16_0 : wc.cell? ⟨gb377,0,none⟩ = some (.int .i64 a0_0):=(zAf BK377.out 0).trans rfl
      have hcz16_1 : wc.cell? ⟨gb377,1,none⟩ = some (.int .i64 a0_1):=(zAf BK377.out 1).trans rfl
      have hcz16_2 : wc.cell? ⟨gb377,2,none⟩ = some (.int .i64 a0_2):=(zAf BK377.out 2).trans rfl
      have hcz16_3 : wc.cell? ⟨gb377,3,none⟩ = some (.string a0_3):=(zAf BK377.out 3).trans rfl
      have hcz16_4 : wc.cell? ⟨gb377,4,none⟩ = some (.slice A0_4 l0_4.length c0_4):=(zAf BK377.out 4).trans rfl
      have hfz16_0:=zAe BK377.out 0
      have hfz16_1:=zAe BK377.out 1
      have hfz16_2:=zAe BK377.out 2
      have hfz16_3:=zAe BK377.out 3
      have hfz16_4:=zAe BK377.out 4
      go_wp2
      go_ret
      exact ⟨by first | rfl | (simp [zAo,zAn] <;> rfl) | (simp [*,zAo,zAn] <;> rfl),by repeat (first | (with_reducible first | exact HB.out | apply zAg | apply zAc | apply zAi | refine zAh ?_ GE377.out) | exact HB.out)⟩
     ·rw [if_neg c15] at H
      have c15b0 : (a0_0 == 20) = false:=beq_eq_false_iff_ne.mpr c15
      have c15b1 : (a0_0 != 20) = true:=bne_iff_ne.mpr c15
      by_cases c17 : a0_0 = 21
      ·rw [if_pos c17] at H
       have c17b0 : (a0_0 == 21) = true:=beq_iff_eq.mpr c17
       have c17b1 : (a0_0 != 21) = false:=bne_eq_false_iff_eq.mpr c17
       clear c17
       by_cases c18 : a0_1 = 0
       ·rw [if_pos c18] at H
        have c18b0 : (a0_1 == 0) = true:=beq_iff_eq.mpr c18
        have c18b1 : (a0_1 != 0) = false:=bne_eq_false_iff_eq.mpr c18
        clear c18
        obtain rfl:=Option.some.inj H
        have hcz19_0 : wc.cell? ⟨gb377,0,none⟩ = some (.int .i64 a0_0):=(zAf BK377.out 0).trans rfl
        have hcz19_1 : wc.cell? ⟨gb377,1,none⟩ = some (.int .i64 a0_1):=(zAf BK377.out 1).trans rfl
        have hcz19_2 : wc.cell? ⟨gb377,2,none⟩ = some (.int .i64 a0_2):=(zAf BK377.out 2).trans rfl
        have hcz19_3 : wc.cell? ⟨gb377,3,none⟩ = some (.string a0_3):=(zAf BK377.out 3).trans rfl
        have hcz19_4 : wc.cell? ⟨gb377,4,none⟩ = some (.slice A0_4 l0_4.length c0_4):=(zAf BK377.out 4).trans rfl
        have hfz19_0:=zAe BK377.out 0
        have hfz19_1:=zAe BK377.out 1
        have hfz19_2:=zAe BK377.out 2
        have hfz19_3:=zAe BK377.out 3
        have hfz19_4:=zAe BK377.out 4
        go_wp2
        go_ret
        exact ⟨by first | rfl | (simp [zAo,zAn] <;> rfl) | (simp [*,zAo,zAn] <;> rfl),by repeat (first | (with_reducible first | exact HB.out | apply zAg | apply zAc | apply zAi | refine zAh ?_ GE377.out) | exact HB.out)⟩
       ·rw [if_neg c18] at H
        have c18b0 : (a0_1 == 0) = false:=beq_eq_false_iff_ne.mpr c18
        have c18b1 : (a0_1 != 0) = true:=bne_iff_ne.mpr c18
        obtain rfl:=Option.some.inj H
        have hcz20_0 : wc.cell? ⟨gb377,0,none⟩ = some (.int .i64 a0_0):=(zAf BK377.out 0).trans rfl
        have hcz20_1 : wc.cell? ⟨gb377,1,none⟩ = some (.int .i64 a0_1):=(zAf BK377.out 1).trans rfl
        have hcz20_2 : wc.cell? ⟨gb377,2,none⟩ = some (.int .i64 a0_2):=(zAf BK377.out 2).trans rfl
        have hcz20_3 : wc.cell? ⟨gb377,3,none⟩ = some (.string a0_3):=(zAf BK377.out 3).trans rfl
        have hcz20_4 : wc.cell? ⟨gb377,4,none⟩ = some (.slice A0_4 l0_4.length c0_4):=(zAf BK377.out 4).trans rfl
        have hfz20_0:=zAe BK377.out 0
        have hfz20_1:=zAe BK377.out 1
        have hfz20_2:=zAe BK377.out 2
        have hfz20_3:=zAe BK377.out 3
        have hfz20_4:=zAe BK377.out 4
        go_wp2
        go_ret
        exact ⟨by first | rfl | (simp [zAo,zAn] <;> rfl) | (simp [*,zAo,zAn] <;> rfl),by repeat (first | (with_reducible first | exact HB.out | apply zAg | apply zAc | apply zAi | refine zAh ?_ GE377.out) | exact HB.out)⟩
      ·rw [if_neg c17] at H
       have c17b0 : (a0_0 == 21) = false:=beq_eq_false_iff_ne.mpr c17
       have c17b1 : (a0_0 != 21) = true:=bne_iff_ne.mpr c17
       obtain rfl:=Option.some.inj H
       have hcz21_0 : wc.cell? ⟨gb377,0,none⟩ = some (.int .i64 a0_0):=(zAf BK377.out 0).trans rfl
       have hcz21_1 : wc.cell? ⟨gb377,1,none⟩ = some (.int .i64 a0_1):=(zAf BK377.out 1).trans rfl
       have hcz21_2 : wc.cell? ⟨gb377,2,none⟩ = some (.int .i64 a0_2):=(zAf BK377.out 2).trans rfl
       have hcz21_3 : wc.cell? ⟨gb377,3,none⟩ = some (.string a0_3):=(zAf BK377.out 3).trans rfl
       have hcz21_4 : wc.cell? ⟨gb377,4,none⟩ = some (.slice A0_4 l0_4.length c0_4):=(zAf BK377.out 4).trans rfl
       have hfz21_0:=zAe BK377.out 0
       have hfz21_1:=zAe BK377.out 1
       have hfz21_2:=zAe BK377.out 2
       have hfz21_3:=zAe BK377.out 3
       have hfz21_4:=zAe BK377.out 4
       go_wp2
       go_ret
       exact ⟨by first | rfl | (simp [zAo,zAn] <;> rfl) | (simp [*,zAo,zAn] <;> rfl),by repeat (first | (with_reducible first | exact HB.out | apply zAg | apply zAc | apply zAi | refine zAh ?_ GE377.out) | exact HB.out)⟩
end Go.Proofs.Ytpggidmpkhmijaa.P
