import Derived.Test.YtkhlfdcjgooogaaGreatWMore
import Derived.Test.YtkhlfdcjgooogaaGreatTrC
set_option maxRecDepth 100000
set_option maxHeartbeats 16000000
set_option linter.unusedVariables false
set_option linter.unusedSimpArgs false
set_option linter.unusedSectionVars false
namespace Go.Proofs.YtkhlfdcjgooogaaGreat.P
open Go.RowKit Go.Proofs.YtkhlfdcjgooogaaGreatW.PrintWords Go.Proofs.YtkhlfdcjgooogaaGreatW.PrintLast Go.Proofs.YtkhlfdcjgooogaaGreatW.PrintMore
theorem kids_3 (n at_ : Int) (tx : ByteArray) (Ak : Option Addr) (ck : Nat) (kl : List Int) (At : Option Addr) (ct : Nat) (nodes : List S66) (root : Int) (R0 : Nat) (h0 : R0 = runF (fun x => x == 4) 4000 ((kindsOf nodes kl).drop (0))) (R1 : Nat) (h1 : R1 = runF (fun x => x == 5) 4000 ((kindsOf nodes kl).drop (0 + R0))) (R2 : Nat) (h2 : R2 = runF (fun x => x == 6) 1 ((kindsOf nodes kl).drop (0 + R0 + R1))) (w : World)
  (hK : Kd.C (Kd.int .i64) w Ak kl.length kl) (hT : Kd.C k66 w At nodes.length nodes) (hck : kl.length ≤ ck) (hct : nodes.length ≤ ct) (hkl : kl.length ≤ 4000) (hnl : nodes.length ≤ 4000) (hin : ∀ x ∈ kl,0 ≤ x ∧ x < nodes.length) :
  Calls Tryz.prog 61 #[.agg #[.slice At nodes.length ct,.int .i64 root],nodeV 3 n at_ tx Ak kl.length ck] w fun e w' => e = .returned (.bool (((R2 : Int) == 1) && (((0 + R0 + R1 + R2 : Nat) : Int) == (kl.length : Int)))) ∧ Below w.heap.size w w':=by
 have hmf:=@hmf_ Tryz.prog
 have HKS:=Lib.hid (KS.start (k:=3) (n:=n) (at_:=at_) (tx:=tx) (root:=root) hK hT hck hct hkl hnl hin)
 have HR0:=Lib.hid h0
 have HR1:=Lib.hid h1
 have HR2:=Lib.hid h2
 clear hK hT hin h0 h1 h2
 unfold nodeV
 go_enter Tryz.func61,Tryz.ntmps61
 go_wp2_with fail
 obtain ⟨W0,hW0⟩ : ∃ W_,W_ = ((w.alloc (.cells #[.slice At nodes.length ct,.int .i64 root] 24)).alloc (.cells #[.int .i64 3,.int .i64 n,.int .i64 at_,.string tx,.slice Ak kl.length ck] 66)).alloc (.cells #[.int .i64 0] 3):=⟨_,rfl⟩
 rw [← hW0] at HKS ⊢
 have S0:=HKS
 clear hW0 HKS
 refine (is_new 4 W0).mono ?_
 rintro e_ w_ ⟨rfl,rfl⟩
 go_wp2_with fail
 refine (take_is _ 4 4000 (by decide) (by decide) S0.out).mono ?_
 rintro e_ W1 ⟨R_,rfl,HR_,S1⟩
 obtain rfl : R0 = R_:=HR0.out.trans HR_.out.symm
 clear HR_ S0
 go_wp2_with fail
 refine (is_new 5 W1).mono ?_
 rintro e_ w_ ⟨rfl,rfl⟩
 go_wp2_with fail
 refine (take_is _ 5 4000 (by decide) (by decide) S1.out).mono ?_
 rintro e_ W2 ⟨R_,rfl,HR_,S2⟩
 obtain rfl : R1 = R_:=HR1.out.trans HR_.out.symm
 clear HR_ S1
 go_wp2_with fail
 refine (is_new 6 W2).mono ?_
 rintro e_ w_ ⟨rfl,rfl⟩
 go_wp2_with fail
 refine (take_is _ 6 1 (by decide) (by decide) S2.out).mono ?_
 rintro e_ W3 ⟨R_,rfl,HR_,S3⟩
 obtain rfl : R2 = R_:=HR2.out.trans HR_.out.symm
 clear HR_ S2
 by_cases hc2 : R2 = 1
 ·have q2 : ((R2 : Int) == 1) = true:=by simp [hc2]
  go_wp2_with fail
  obtain ⟨iN,hiN⟩ : ∃ i_ : Nat,i_ = 0 + R0 + R1 + R2:=⟨_,rfl⟩
  rw [← hiN] at S3
  have HIN:=Lib.hid hiN
  clear hiN
  refine (end_st _ S3.out).mono ?_
  rintro e_ w_ ⟨rfl,rfl⟩
  go_wp2_with fail
  go_ret
  exact ⟨by rw [q2,← HIN.out]; rfl,S3.out.2.2.1⟩
 ·have q2 : ((R2 : Int) == 1) = false:=by simp; omega
  go_wp2_with fail
  go_ret
  exact ⟨by rw [q2]; rfl,S3.out.2.2.1⟩
theorem kids_15 (n at_ : Int) (tx : ByteArray) (Ak : Option Addr) (ck : Nat) (kl : List Int) (At : Option Addr) (ct : Nat) (nodes : List S66) (root : Int) (R0 : Nat) (h0 : R0 = runF exB 1 ((kindsOf nodes kl).drop (0))) (w : World)
  (hK : Kd.C (Kd.int .i64) w Ak kl.length kl) (hT : Kd.C k66 w At nodes.length nodes) (hck : kl.length ≤ ck) (hct : nodes.length ≤ ct) (hkl : kl.length ≤ 4000) (hnl : nodes.length ≤ 4000) (hin : ∀ x ∈ kl,0 ≤ x ∧ x < nodes.length) :
  Calls Tryz.prog 61 #[.agg #[.slice At nodes.length ct,.int .i64 root],nodeV 15 n at_ tx Ak kl.length ck] w fun e w' => e = .returned (.bool (((R0 : Int) == 1) && (((0 + R0 : Nat) : Int) == (kl.length : Int)))) ∧ Below w.heap.size w w':=by
 have hmf:=@hmf_ Tryz.prog
 have HKS:=Lib.hid (KS.start (k:=15) (n:=n) (at_:=at_) (tx:=tx) (root:=root) hK hT hck hct hkl hnl hin)
 have HR0:=Lib.hid h0
 clear hK hT hin h0
 unfold nodeV
 go_enter Tryz.func61,Tryz.ntmps61
 go_wp2_with fail
 obtain ⟨W0,hW0⟩ : ∃ W_,W_ = ((w.alloc (.cells #[.slice At nodes.length ct,.int .i64 root] 24)).alloc (.cells #[.int .i64 15,.int .i64 n,.int .i64 at_,.string tx,.slice Ak kl.length ck] 66)).alloc (.cells #[.int .i64 0] 3):=⟨_,rfl⟩
 rw [← hW0] at HKS ⊢
 have S0:=HKS
 clear hW0 HKS
 refine (zBb _ 1 (by decide) (by decide) S0.out).mono ?_
 rintro e_ W1 ⟨R_,rfl,HR_,S1⟩
 obtain rfl : R0 = R_:=HR0.out.trans HR_.out.symm
 clear HR_ S0
 by_cases hc0 : R0 = 1
 ·have q0 : ((R0 : Int) == 1) = true:=by simp [hc0]
  go_wp2_with fail
  obtain ⟨iN,hiN⟩ : ∃ i_ : Nat,i_ = 0 + R0:=⟨_,rfl⟩
  rw [← hiN] at S1
  have HIN:=Lib.hid hiN
  clear hiN
  refine (end_st _ S1.out).mono ?_
  rintro e_ w_ ⟨rfl,rfl⟩
  go_wp2_with fail
  go_ret
  exact ⟨by rw [q0,← HIN.out]; rfl,S1.out.2.2.1⟩
 ·have q0 : ((R0 : Int) == 1) = false:=by simp; omega
  go_wp2_with fail
  go_ret
  exact ⟨by rw [q0]; rfl,S1.out.2.2.1⟩
theorem kids_26 (n at_ : Int) (tx : ByteArray) (Ak : Option Addr) (ck : Nat) (kl : List Int) (At : Option Addr) (ct : Nat) (nodes : List S66) (root : Int) (R0 : Nat) (h0 : R0 = runF exB 1 ((kindsOf nodes kl).drop (0))) (w : World)
  (hK : Kd.C (Kd.int .i64) w Ak kl.length kl) (hT : Kd.C k66 w At nodes.length nodes) (hck : kl.length ≤ ck) (hct : nodes.length ≤ ct) (hkl : kl.length ≤ 4000) (hnl : nodes.length ≤ 4000) (hin : ∀ x ∈ kl,0 ≤ x ∧ x < nodes.length) :
  Calls Tryz.prog 61 #[.agg #[.slice At nodes.length ct,.int .i64 root],nodeV 26 n at_ tx Ak kl.length ck] w fun e w' => e = .returned (.bool (((R0 : Int) == 1) && (((0 + R0 : Nat) : Int) == (kl.length : Int)))) ∧ Below w.heap.size w w':=by
 have hmf:=@hmf_ Tryz.prog
 have HKS:=Lib.hid (KS.start (k:=26) (n:=n) (at_:=at_) (tx:=tx) (root:=root) hK hT hck hct hkl hnl hin)
 have HR0:=Lib.hid h0
 clear hK hT hin h0
 unfold nodeV
 go_enter Tryz.func61,Tryz.ntmps61
 go_wp2_with fail
 obtain ⟨W0,hW0⟩ : ∃ W_,W_ = ((w.alloc (.cells #[.slice At nodes.length ct,.int .i64 root] 24)).alloc (.cells #[.int .i64 26,.int .i64 n,.int .i64 at_,.string tx,.slice Ak kl.length ck] 66)).alloc (.cells #[.int .i64 0] 3):=⟨_,rfl⟩
 rw [← hW0] at HKS ⊢
 have S0:=HKS
 clear hW0 HKS
 refine (zBb _ 1 (by decide) (by decide) S0.out).mono ?_
 rintro e_ W1 ⟨R_,rfl,HR_,S1⟩
 obtain rfl : R0 = R_:=HR0.out.trans HR_.out.symm
 clear HR_ S0
 by_cases hc0 : R0 = 1
 ·have q0 : ((R0 : Int) == 1) = true:=by simp [hc0]
  go_wp2_with fail
  obtain ⟨iN,hiN⟩ : ∃ i_ : Nat,i_ = 0 + R0:=⟨_,rfl⟩
  rw [← hiN] at S1
  have HIN:=Lib.hid hiN
  clear hiN
  refine (end_st _ S1.out).mono ?_
  rintro e_ w_ ⟨rfl,rfl⟩
  go_wp2_with fail
  go_ret
  exact ⟨by rw [q0,← HIN.out]; rfl,S1.out.2.2.1⟩
 ·have q0 : ((R0 : Int) == 1) = false:=by simp; omega
  go_wp2_with fail
  go_ret
  exact ⟨by rw [q0]; rfl,S1.out.2.2.1⟩
theorem kids_9 (n at_ : Int) (tx : ByteArray) (Ak : Option Addr) (ck : Nat) (kl : List Int) (At : Option Addr) (ct : Nat) (nodes : List S66) (root : Int) (R0 : Nat) (h0 : R0 = runF (fun x => x == 18) 1 ((kindsOf nodes kl).drop (0))) (w : World)
  (hK : Kd.C (Kd.int .i64) w Ak kl.length kl) (hT : Kd.C k66 w At nodes.length nodes) (hck : kl.length ≤ ck) (hct : nodes.length ≤ ct) (hkl : kl.length ≤ 4000) (hnl : nodes.length ≤ 4000) (hin : ∀ x ∈ kl,0 ≤ x ∧ x < nodes.length) :
  Calls Tryz.prog 61 #[.agg #[.slice At nodes.length ct,.int .i64 root],nodeV 9 n at_ tx Ak kl.length ck] w fun e w' => e = .returned (.bool (((R0 : Int) == 1) && (((0 + R0 : Nat) : Int) == (kl.length : Int)))) ∧ Below w.heap.size w w':=by
 have hmf:=@hmf_ Tryz.prog
 have HKS:=Lib.hid (KS.start (k:=9) (n:=n) (at_:=at_) (tx:=tx) (root:=root) hK hT hck hct hkl hnl hin)
 have HR0:=Lib.hid h0
 clear hK hT hin h0
 unfold nodeV
 go_enter Tryz.func61,Tryz.ntmps61
 go_wp2_with fail
 obtain ⟨W0,hW0⟩ : ∃ W_,W_ = ((w.alloc (.cells #[.slice At nodes.length ct,.int .i64 root] 24)).alloc (.cells #[.int .i64 9,.int .i64 n,.int .i64 at_,.string tx,.slice Ak kl.length ck] 66)).alloc (.cells #[.int .i64 0] 3):=⟨_,rfl⟩
 rw [← hW0] at HKS ⊢
 have S0:=HKS
 clear hW0 HKS
 refine (is_new 18 W0).mono ?_
 rintro e_ w_ ⟨rfl,rfl⟩
 go_wp2_with fail
 refine (take_is _ 18 1 (by decide) (by decide) S0.out).mono ?_
 rintro e_ W1 ⟨R_,rfl,HR_,S1⟩
 obtain rfl : R0 = R_:=HR0.out.trans HR_.out.symm
 clear HR_ S0
 by_cases hc0 : R0 = 1
 ·have q0 : ((R0 : Int) == 1) = true:=by simp [hc0]
  go_wp2_with fail
  obtain ⟨iN,hiN⟩ : ∃ i_ : Nat,i_ = 0 + R0:=⟨_,rfl⟩
  rw [← hiN] at S1
  have HIN:=Lib.hid hiN
  clear hiN
  refine (end_st _ S1.out).mono ?_
  rintro e_ w_ ⟨rfl,rfl⟩
  go_wp2_with fail
  go_ret
  exact ⟨by rw [q0,← HIN.out]; rfl,S1.out.2.2.1⟩
 ·have q0 : ((R0 : Int) == 1) = false:=by simp; omega
  go_wp2_with fail
  go_ret
  exact ⟨by rw [q0]; rfl,S1.out.2.2.1⟩
theorem kids_12 (n at_ : Int) (tx : ByteArray) (Ak : Option Addr) (ck : Nat) (kl : List Int) (At : Option Addr) (ct : Nat) (nodes : List S66) (root : Int) (R0 : Nat) (h0 : R0 = runF exB 1 ((kindsOf nodes kl).drop (0))) (R1 : Nat) (h1 : R1 = runF (fun x => x == 6) 1 ((kindsOf nodes kl).drop (0 + R0))) (w : World)
  (hK : Kd.C (Kd.int .i64) w Ak kl.length kl) (hT : Kd.C k66 w At nodes.length nodes) (hck : kl.length ≤ ck) (hct : nodes.length ≤ ct) (hkl : kl.length ≤ 4000) (hnl : nodes.length ≤ 4000) (hin : ∀ x ∈ kl,0 ≤ x ∧ x < nodes.length) :
  Calls Tryz.prog 61 #[.agg #[.slice At nodes.length ct,.int .i64 root],nodeV 12 n at_ tx Ak kl.length ck] w fun e w' => e = .returned (.bool (((R0 : Int) == 1) && ((R1 : Int) == 1) && (((0 + R0 + R1 : Nat) : Int) == (kl.length : Int)))) ∧ Below w.heap.size w w':=by
 have hmf:=@hmf_ Tryz.prog
 have HKS:=Lib.hid (KS.start (k:=12) (n:=n) (at_:=at_) (tx:=tx) (root:=root) hK hT hck hct hkl hnl hin)
 have HR0:=Lib.hid h0
 have HR1:=Lib.hid h1
 clear hK hT hin h0 h1
 unfold nodeV
 go_enter Tryz.func61,Tryz.ntmps61
 go_wp2_with fail
 obtain ⟨W0,hW0⟩ : ∃ W_,W_ = ((w.alloc (.cells #[.slice At nodes.length ct,.int .i64 root] 24)).alloc (.cells #[.int .i64 12,.int .i64 n,.int .i64 at_,.string tx,.slice Ak kl.length ck] 66)).alloc (.cells #[.int .i64 0] 3):=⟨_,rfl⟩
 rw [← hW0] at HKS ⊢
 have S0:=HKS
 clear hW0 HKS
 refine (zBb _ 1 (by decide) (by decide) S0.out).mono ?_
 rintro e_ W1 ⟨R_,rfl,HR_,S1⟩
 obtain rfl : R0 = R_:=HR0.out.trans HR_.out.symm
 clear HR_ S0
 by_cases hc0 : R0 = 1
 ·have q0 : ((R0 : Int) == 1) = true:=by simp [hc0]
  go_wp2_with fail
  refine (is_new 6 W1).mono ?_
  rintro e_ w_ ⟨rfl,rfl⟩
  go_wp2_with fail
  refine (take_is _ 6 1 (by decide) (by decide) S1.out).mono ?_
  rintro e_ W2 ⟨R_,rfl,HR_,S2⟩
  obtain rfl : R1 = R_:=HR1.out.trans HR_.out.symm
  clear HR_ S1
  by_cases hc1 : R1 = 1
  ·have q1 : ((R1 : Int) == 1) = true:=by simp [hc1]
   go_wp2_with fail
   obtain ⟨iN,hiN⟩ : ∃ i_ : Nat,i_ = 0 + R0 + R1:=⟨_,rfl⟩
   rw [← hiN] at S2
   have HIN:=Lib.hid hiN
   clear hiN
   refine (end_st _ S2.out).mono ?_
   rintro e_ w_ ⟨rfl,rfl⟩
   go_wp2_with fail
   go_ret
   exact ⟨by rw [q0,q1,← HIN.out]; rfl,S2.out.2.2.1⟩
  ·have q1 : ((R1 : Int) == 1) = false:=by simp; omega
   go_wp2_with fail
   go_ret
   exact ⟨by rw [q0,q1]; rfl,S2.out.2.2.1⟩
 ·have q0 : ((R0 : Int) == 1) = false:=by simp; omega
  go_wp2_with fail
  go_ret
  exact ⟨by rw [q0]; rfl,S1.out.2.2.1⟩
theorem kids_16 (n at_ : Int) (tx : ByteArray) (Ak : Option Addr) (ck : Nat) (kl : List Int) (At : Option Addr) (ct : Nat) (nodes : List S66) (root : Int) (R0 : Nat) (h0 : R0 = runF (fun x => x == 6) 2 ((kindsOf nodes kl).drop (0))) (w : World)
  (hK : Kd.C (Kd.int .i64) w Ak kl.length kl) (hT : Kd.C k66 w At nodes.length nodes) (hck : kl.length ≤ ck) (hct : nodes.length ≤ ct) (hkl : kl.length ≤ 4000) (hnl : nodes.length ≤ 4000) (hin : ∀ x ∈ kl,0 ≤ x ∧ x < nodes.length) :
  Calls Tryz.prog 61 #[.agg #[.slice At nodes.length ct,.int .i64 root],nodeV 16 n at_ tx Ak kl.length ck] w fun e w' => e = .returned (.bool (((R0 : Int) == 2) && (((0 + R0 : Nat) : Int) == (kl.length : Int)))) ∧ Below w.heap.size w w':=by
 have hmf:=@hmf_ Tryz.prog
 have HKS:=Lib.hid (KS.start (k:=16) (n:=n) (at_:=at_) (tx:=tx) (root:=root) hK hT hck hct hkl hnl hin)
 have HR0:=Lib.hid h0
 clear hK hT hin h0
 unfold nodeV
 go_enter Tryz.func61,Tryz.ntmps61
 go_wp2_with fail
 obtain ⟨W0,hW0⟩ : ∃ W_,W_ = ((w.alloc (.cells #[.slice At nodes.length ct,.int .i64 root] 24)).alloc (.cells #[.int .i64 16,.int .i64 n,.int .i64 at_,.string tx,.slice Ak kl.length ck] 66)).alloc (.cells #[.int .i64 0] 3):=⟨_,rfl⟩
 rw [← hW0] at HKS ⊢
 have S0:=HKS
 clear hW0 HKS
 refine (is_new 6 W0).mono ?_
 rintro e_ w_ ⟨rfl,rfl⟩
 go_wp2_with fail
 refine (take_is _ 6 2 (by decide) (by decide) S0.out).mono ?_
 rintro e_ W1 ⟨R_,rfl,HR_,S1⟩
 obtain rfl : R0 = R_:=HR0.out.trans HR_.out.symm
 clear HR_ S0
 by_cases hc0 : R0 = 2
 ·have q0 : ((R0 : Int) == 2) = true:=by simp [hc0]
  go_wp2_with fail
  obtain ⟨iN,hiN⟩ : ∃ i_ : Nat,i_ = 0 + R0:=⟨_,rfl⟩
  rw [← hiN] at S1
  have HIN:=Lib.hid hiN
  clear hiN
  refine (end_st _ S1.out).mono ?_
  rintro e_ w_ ⟨rfl,rfl⟩
  go_wp2_with fail
  go_ret
  exact ⟨by rw [q0,← HIN.out]; rfl,S1.out.2.2.1⟩
 ·have q0 : ((R0 : Int) == 2) = false:=by simp; omega
  go_wp2_with fail
  go_ret
  exact ⟨by rw [q0]; rfl,S1.out.2.2.1⟩
theorem kids_5 (n at_ : Int) (tx : ByteArray) (Ak : Option Addr) (ck : Nat) (kl : List Int) (At : Option Addr) (ct : Nat) (nodes : List S66) (root : Int) (w : World)
  (hK : Kd.C (Kd.int .i64) w Ak kl.length kl) (hT : Kd.C k66 w At nodes.length nodes) (hck : kl.length ≤ ck) (hct : nodes.length ≤ ct) (hkl : kl.length ≤ 4000) (hnl : nodes.length ≤ 4000) (hin : ∀ x ∈ kl,0 ≤ x ∧ x < nodes.length) :
  Calls Tryz.prog 61 #[.agg #[.slice At nodes.length ct,.int .i64 root],nodeV 5 n at_ tx Ak kl.length ck] w fun e w' => e = .returned (.bool ((((0 : Nat) : Int) == (kl.length : Int)))) ∧ Below w.heap.size w w':=by
 have hmf:=@hmf_ Tryz.prog
 have HKS:=Lib.hid (KS.start (k:=5) (n:=n) (at_:=at_) (tx:=tx) (root:=root) hK hT hck hct hkl hnl hin)
 clear hK hT hin
 unfold nodeV
 go_enter Tryz.func61,Tryz.ntmps61
 go_wp2_with fail
 obtain ⟨W0,hW0⟩ : ∃ W_,W_ = ((w.alloc (.cells #[.slice At nodes.length ct,.int .i64 root] 24)).alloc (.cells #[.int .i64 5,.int .i64 n,.int .i64 at_,.string tx,.slice Ak kl.length ck] 66)).alloc (.cells #[.int .i64 0] 3):=⟨_,rfl⟩
 rw [← hW0] at HKS ⊢
 have S0:=HKS
 clear hW0 HKS
 obtain ⟨iN,hiN⟩ : ∃ i_ : Nat,i_ = 0:=⟨_,rfl⟩
 have S0_ : Hid (KS w 5 n at_ tx Ak ck kl At ct nodes root W0 iN):=Lib.hid (by rw [hiN]; exact S0.out)
 clear S0
 have S0:=S0_
 clear S0_
 have HIN:=Lib.hid hiN
 clear hiN
 refine (end_st _ S0.out).mono ?_
 rintro e_ w_ ⟨rfl,rfl⟩
 go_wp2_with fail
 go_ret
 exact ⟨by rw [← HIN.out]; rfl,S0.out.2.2.1⟩
theorem kids_20 (n at_ : Int) (tx : ByteArray) (Ak : Option Addr) (ck : Nat) (kl : List Int) (At : Option Addr) (ct : Nat) (nodes : List S66) (root : Int) (w : World)
  (hK : Kd.C (Kd.int .i64) w Ak kl.length kl) (hT : Kd.C k66 w At nodes.length nodes) (hck : kl.length ≤ ck) (hct : nodes.length ≤ ct) (hkl : kl.length ≤ 4000) (hnl : nodes.length ≤ 4000) (hin : ∀ x ∈ kl,0 ≤ x ∧ x < nodes.length) :
  Calls Tryz.prog 61 #[.agg #[.slice At nodes.length ct,.int .i64 root],nodeV 20 n at_ tx Ak kl.length ck] w fun e w' => e = .returned (.bool ((((0 : Nat) : Int) == (kl.length : Int)))) ∧ Below w.heap.size w w':=by
 have hmf:=@hmf_ Tryz.prog
 have HKS:=Lib.hid (KS.start (k:=20) (n:=n) (at_:=at_) (tx:=tx) (root:=root) hK hT hck hct hkl hnl hin)
 clear hK hT hin
 unfold nodeV
 go_enter Tryz.func61,Tryz.ntmps61
 go_wp2_with fail
 obtain ⟨W0,hW0⟩ : ∃ W_,W_ = ((w.alloc (.cells #[.slice At nodes.length ct,.int .i64 root] 24)).alloc (.cells #[.int .i64 20,.int .i64 n,.int .i64 at_,.string tx,.slice Ak kl.length ck] 66)).alloc (.cells #[.int .i64 0] 3):=⟨_,rfl⟩
 rw [← hW0] at HKS ⊢
 have S0:=HKS
 clear hW0 HKS
 obtain ⟨iN,hiN⟩ : ∃ i_ : Nat,i_ = 0:=⟨_,rfl⟩
 have S0_ : Hid (KS w 20 n at_ tx Ak ck kl At ct nodes root W0 iN):=Lib.hid (by rw [hiN]; exact S0.out)
 clear S0
 have S0:=S0_
 clear S0_
 have HIN:=Lib.hid hiN
 clear hiN
 refine (end_st _ S0.out).mono ?_
 rintro e_ w_ ⟨rfl,rfl⟩
 go_wp2_with fail
 go_ret
 exact ⟨by rw [← HIN.out]; rfl,S0.out.2.2.1⟩
theorem kids_24 (n at_ : Int) (tx : ByteArray) (Ak : Option Addr) (ck : Nat) (kl : List Int) (At : Option Addr) (ct : Nat) (nodes : List S66) (root : Int) (w : World)
  (hK : Kd.C (Kd.int .i64) w Ak kl.length kl) (hT : Kd.C k66 w At nodes.length nodes) (hck : kl.length ≤ ck) (hct : nodes.length ≤ ct) (hkl : kl.length ≤ 4000) (hnl : nodes.length ≤ 4000) (hin : ∀ x ∈ kl,0 ≤ x ∧ x < nodes.length) :
  Calls Tryz.prog 61 #[.agg #[.slice At nodes.length ct,.int .i64 root],nodeV 24 n at_ tx Ak kl.length ck] w fun e w' => e = .returned (.bool ((((0 : Nat) : Int) == (kl.length : Int)))) ∧ Below w.heap.size w w':=by
 have hmf:=@hmf_ Tryz.prog
 have HKS:=Lib.hid (KS.start (k:=24) (n:=n) (at_:=at_) (tx:=tx) (root:=root) hK hT hck hct hkl hnl hin)
 clear hK hT hin
 unfold nodeV
 go_enter Tryz.func61,Tryz.ntmps61
 go_wp2_with fail
 obtain ⟨W0,hW0⟩ : ∃ W_,W_ = ((w.alloc (.cells #[.slice At nodes.length ct,.int .i64 root] 24)).alloc (.cells #[.int .i64 24,.int .i64 n,.int .i64 at_,.string tx,.slice Ak kl.length ck] 66)).alloc (.cells #[.int .i64 0] 3):=⟨_,rfl⟩
 rw [← hW0] at HKS ⊢
 have S0:=HKS
 clear hW0 HKS
 obtain ⟨iN,hiN⟩ : ∃ i_ : Nat,i_ = 0:=⟨_,rfl⟩
 have S0_ : Hid (KS w 24 n at_ tx Ak ck kl At ct nodes root W0 iN):=Lib.hid (by rw [hiN]; exact S0.out)
 clear S0
 have S0:=S0_
 clear S0_
 have HIN:=Lib.hid hiN
 clear hiN
 refine (end_st _ S0.out).mono ?_
 rintro e_ w_ ⟨rfl,rfl⟩
 go_wp2_with fail
 go_ret
 exact ⟨by rw [← HIN.out]; rfl,S0.out.2.2.1⟩
end Go.Proofs.YtkhlfdcjgooogaaGreat.P
