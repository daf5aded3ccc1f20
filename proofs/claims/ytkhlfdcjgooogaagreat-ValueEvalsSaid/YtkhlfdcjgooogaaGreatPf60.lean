import Derived.Test.YtkhlfdcjgooogaaGreatWMore
import Derived.Test.YtkhlfdcjgooogaaGreatTrC
import Derived.Test.YtkhlfdcjgooogaaGreatPf103
set_option maxRecDepth 100000
set_option maxHeartbeats 16000000
set_option linter.unusedVariables false
set_option linter.unusedSimpArgs false
set_option linter.unusedSectionVars false
namespace Go.Proofs.YtkhlfdcjgooogaaGreat.P
open Go.RowKit Go.Proofs.YtkhlfdcjgooogaaGreatW.PrintWords Go.Proofs.YtkhlfdcjgooogaaGreatW.PrintLast Go.Proofs.YtkhlfdcjgooogaaGreatW.PrintMore
theorem kids_6 (n at_ : Int) (tx : ByteArray) (Ak : Option Addr) (ck : Nat) (kl : List Int) (At : Option Addr) (ct : Nat) (nodes : List S66) (root : Int) (R0 : Nat) (h0 : R0 = runF stB 4000 ((kindsOf nodes kl).drop (0))) (w : World)
  (hK : Kd.C (Kd.int .i64) w Ak kl.length kl) (hT : Kd.C k66 w At nodes.length nodes) (hck : kl.length ≤ ck) (hct : nodes.length ≤ ct) (hkl : kl.length ≤ 4000) (hnl : nodes.length ≤ 4000) (hin : ∀ x ∈ kl,0 ≤ x ∧ x < nodes.length) :
  Calls Tryz.prog 61 #[.agg #[.slice At nodes.length ct,.int .i64 root],nodeV 6 n at_ tx Ak kl.length ck] w fun e w' => e = .returned (.bool ((((0 + R0 : Nat) : Int) == (kl.length : Int)))) ∧ Below w.heap.size w w':=by
 have hmf:=@hmf_ Tryz.prog
 have HKS:=Lib.hid (KS.start (k:=6) (n:=n) (at_:=at_) (tx:=tx) (root:=root) hK hT hck hct hkl hnl hin)
 have HR0:=Lib.hid h0
 clear hK hT hin h0
 unfold nodeV
 go_enter Tryz.func61,Tryz.ntmps61
 go_wp2_with fail
 obtain ⟨W0,hW0⟩ : ∃ W_,W_ = ((w.alloc (.cells #[.slice At nodes.length ct,.int .i64 root] 24)).alloc (.cells #[.int .i64 6,.int .i64 n,.int .i64 at_,.string tx,.slice Ak kl.length ck] 66)).alloc (.cells #[.int .i64 0] 3):=⟨_,rfl⟩
 rw [← hW0] at HKS ⊢
 have S0:=HKS
 clear hW0 HKS
 refine (take_st45 _ 4000 (by decide) (by decide) S0.out).mono ?_
 rintro e_ W1 ⟨R_,rfl,HR_,S1⟩
 obtain rfl : R0 = R_:=HR0.out.trans HR_.out.symm
 clear HR_ S0
 go_wp2_with fail
 obtain ⟨iN,hiN⟩ : ∃ i_ : Nat,i_ = 0 + R0:=⟨_,rfl⟩
 rw [← hiN] at S1
 have HIN:=Lib.hid hiN
 clear hiN
 refine (end_st _ S1.out).mono ?_
 rintro e_ w_ ⟨rfl,rfl⟩
 go_wp2_with fail
 go_ret
 exact ⟨by rw [← HIN.out]; rfl,S1.out.2.2.1⟩
theorem kids_17 (n at_ : Int) (tx : ByteArray) (Ak : Option Addr) (ck : Nat) (kl : List Int) (At : Option Addr) (ct : Nat) (nodes : List S66) (root : Int) (R0 : Nat) (h0 : R0 = runF exB 1 ((kindsOf nodes kl).drop (0))) (w : World)
  (hK : Kd.C (Kd.int .i64) w Ak kl.length kl) (hT : Kd.C k66 w At nodes.length nodes) (hck : kl.length ≤ ck) (hct : nodes.length ≤ ct) (hkl : kl.length ≤ 4000) (hnl : nodes.length ≤ 4000) (hin : ∀ x ∈ kl,0 ≤ x ∧ x < nodes.length) :
  Calls Tryz.prog 61 #[.agg #[.slice At nodes.length ct,.int .i64 root],nodeV 17 n at_ tx Ak kl.length ck] w fun e w' => e = .returned (.bool (((R0 : Int) == 1) && (((0 + R0 : Nat) : Int) == (kl.length : Int)))) ∧ Below w.heap.size w w':=by
 have hmf:=@hmf_ Tryz.prog
 have HKS:=Lib.hid (KS.start (k:=17) (n:=n) (at_:=at_) (tx:=tx) (root:=root) hK hT hck hct hkl hnl hin)
 have HR0:=Lib.hid h0
 clear hK hT hin h0
 unfold nodeV
 go_enter Tryz.func61,Tryz.ntmps61
 go_wp2_with fail
 obtain ⟨W0,hW0⟩ : ∃ W_,W_ = ((w.alloc (.cells #[.slice At nodes.length ct,.int .i64 root] 24)).alloc (.cells #[.int .i64 17,.int .i64 n,.int .i64 at_,.string tx,.slice Ak kl.length ck] 66)).alloc (.cells #[.int .i64 0] 3):=⟨_,rfl⟩
 rw [← hW0] at HKS ⊢
 have S0:=HKS
 clear hW0 HKS
 refine (zBb _ 1 (by decide) (by decide) S0.out).mono ?_
 rintro e_ W1 ⟨R_,rfl,HR_,S1⟩
 obtain rfl : R0 = R_:=HR0.out.trans HR_.out.symm
 clear HR_ S0
 by_cases hc0 : R0 = 1
 ·have q0 : ((R0 : Int) == 1) = true:=by simp [hc0]
  go_wp2_with fail
  obtain ⟨iN,hiN⟩ : ∃ i_ : Nat,i_ = 0 + R0:=⟨_,rfl⟩
  rw [← hiN] at S1
  have HIN:=Lib.hid hiN
  clear hiN
  refine (end_st _ S1.out).mono ?_
  rintro e_ w_ ⟨rfl,rfl⟩
  go_wp2_with fail
  go_ret
  exact ⟨by rw [q0,← HIN.out]; rfl,S1.out.2.2.1⟩
 ·have q0 : ((R0 : Int) == 1) = false:=by simp; omega
  go_wp2_with fail
  go_ret
  exact ⟨by rw [q0]; rfl,S1.out.2.2.1⟩
theorem kids_8 (n at_ : Int) (tx : ByteArray) (Ak : Option Addr) (ck : Nat) (kl : List Int) (At : Option Addr) (ct : Nat) (nodes : List S66) (root : Int) (R0 : Nat) (h0 : R0 = runF exB 2 ((kindsOf nodes kl).drop (0))) (w : World)
  (hK : Kd.C (Kd.int .i64) w Ak kl.length kl) (hT : Kd.C k66 w At nodes.length nodes) (hck : kl.length ≤ ck) (hct : nodes.length ≤ ct) (hkl : kl.length ≤ 4000) (hnl : nodes.length ≤ 4000) (hin : ∀ x ∈ kl,0 ≤ x ∧ x < nodes.length) :
  Calls Tryz.prog 61 #[.agg #[.slice At nodes.length ct,.int .i64 root],nodeV 8 n at_ tx Ak kl.length ck] w fun e w' => e = .returned (.bool (((R0 : Int) == 2) && (((0 + R0 : Nat) : Int) == (kl.length : Int)))) ∧ Below w.heap.size w w':=by
 have hmf:=@hmf_ Tryz.prog
 have HKS:=Lib.hid (KS.start (k:=8) (n:=n) (at_:=at_) (tx:=tx) (root:=root) hK hT hck hct hkl hnl hin)
 have HR0:=Lib.hid h0
 clear hK hT hin h0
 unfold nodeV
 go_enter Tryz.func61,Tryz.ntmps61
 go_wp2_with fail
 obtain ⟨W0,hW0⟩ : ∃ W_,W_ = ((w.alloc (.cells #[.slice At nodes.length ct,.int .i64 root] 24)).alloc (.cells #[.int .i64 8,.int .i64 n,.int .i64 at_,.string tx,.slice Ak kl.length ck] 66)).alloc (.cells #[.int .i64 0] 3):=⟨_,rfl⟩
 rw [← hW0] at HKS ⊢
 have S0:=HKS
 clear hW0 HKS
 refine (zBb _ 2 (by decide) (by decide) S0.out).mono ?_
 rintro e_ W1 ⟨R_,rfl,HR_,S1⟩
 obtain rfl : R0 = R_:=HR0.out.trans HR_.out.symm
 clear HR_ S0
 by_cases hc0 : R0 = 2
 ·have q0 : ((R0 : Int) == 2) = true:=by simp [hc0]
  go_wp2_with fail
  obtain ⟨iN,hiN⟩ : ∃ i_ : Nat,i_ = 0 + R0:=⟨_,rfl⟩
  rw [← hiN] at S1
  have HIN:=Lib.hid hiN
  clear hiN
  refine (end_st _ S1.out).mono ?_
  rintro e_ w_ ⟨rfl,rfl⟩
  go_wp2_with fail
  go_ret
  exact ⟨by rw [q0,← HIN.out]; rfl,S1.out.2.2.1⟩
 ·have q0 : ((R0 : Int) == 2) = false:=by simp; omega
  go_wp2_with fail
  go_ret
  exact ⟨by rw [q0]; rfl,S1.out.2.2.1⟩
theorem kids_10 (n at_ : Int) (tx : ByteArray) (Ak : Option Addr) (ck : Nat) (kl : List Int) (At : Option Addr) (ct : Nat) (nodes : List S66) (root : Int) (R0 : Nat) (h0 : R0 = runF (fun x => x == 18) 1 ((kindsOf nodes kl).drop (0))) (R1 : Nat) (h1 : R1 = runF exB 1 ((kindsOf nodes kl).drop (0 + R0))) (w : World)
  (hK : Kd.C (Kd.int .i64) w Ak kl.length kl) (hT : Kd.C k66 w At nodes.length nodes) (hck : kl.length ≤ ck) (hct : nodes.length ≤ ct) (hkl : kl.length ≤ 4000) (hnl : nodes.length ≤ 4000) (hin : ∀ x ∈ kl,0 ≤ x ∧ x < nodes.length) :
  Calls Tryz.prog 61 #[.agg #[.slice At nodes.length ct,.int .i64 root],nodeV 10 n at_ tx Ak kl.length ck] w fun e w' => e = .returned (.bool (((R0 : Int) == 1) && ((R1 : Int) == 1) && (((0 + R0 + R1 : Nat) : Int) == (kl.length : Int)))) ∧ Below w.heap.size w w':=by
 have hmf:=@hmf_ Tryz.prog
 have HKS:=Lib.hid (KS.start (k:=10) (n:=n) (at_:=at_) (tx:=tx) (root:=root) hK hT hck hct hkl hnl hin)
 have HR0:=Lib.hid h0
 have HR1:=Lib.hid h1
 clear hK hT hin h0 h1
 unfold nodeV
 go_enter Tryz.func61,Tryz.ntmps61
 go_wp2_with fail
 obtain ⟨W0,hW0⟩ : ∃ W_,W_ = ((w.alloc (.cells #[.slice At nodes.length ct,.int .i64 root] 24)).alloc (.cells #[.int .i64 10,.int .i64 n,.int .i64 at_,.string tx,.slice Ak kl.length ck] 66)).alloc (.cells #[.int .i64 0] 3):=⟨_,rfl⟩
 rw [← hW0] at HKS ⊢
 have S0:=HKS
 clear hW0 HKS
 refine (is_new 18 W0).mono ?_
 rintro e_ w_ ⟨rfl,rfl⟩
 go_wp2_with fail
 refine (take_is _ 18 1 (by decide) (by decide) S0.out).mono ?_
 rintro e_ W1 ⟨R_,rfl,HR_,S1⟩
 obtain rfl : R0 = R_:=HR0.out.trans HR_.out.symm
 clear HR_ S0
 by_cases hc0 : R0 = 1
 ·have q0 : ((R0 : Int) == 1) = true:=by simp [hc0]
  go_wp2_with fail
  refine (zBb _ 1 (by decide) (by decide) S1.out).mono ?_
  rintro e_ W2 ⟨R_,rfl,HR_,S2⟩
  obtain rfl : R1 = R_:=HR1.out.trans HR_.out.symm
  clear HR_ S1
  by_cases hc1 : R1 = 1
  ·have q1 : ((R1 : Int) == 1) = true:=by simp [hc1]
   go_wp2_with fail
   obtain ⟨iN,hiN⟩ : ∃ i_ : Nat,i_ = 0 + R0 + R1:=⟨_,rfl⟩
   rw [← hiN] at S2
   have HIN:=Lib.hid hiN
   clear hiN
   refine (end_st _ S2.out).mono ?_
   rintro e_ w_ ⟨rfl,rfl⟩
   go_wp2_with fail
   go_ret
   exact ⟨by rw [q0,q1,← HIN.out]; rfl,S2.out.2.2.1⟩
  ·have q1 : ((R1 : Int) == 1) = false:=by simp; omega
   go_wp2_with fail
   go_ret
   exact ⟨by rw [q0,q1]; rfl,S2.out.2.2.1⟩
 ·have q0 : ((R0 : Int) == 1) = false:=by simp; omega
  go_wp2_with fail
  go_ret
  exact ⟨by rw [q0]; rfl,S1.out.2.2.1⟩
theorem kids_13 (n at_ : Int) (tx : ByteArray) (Ak : Option Addr) (ck : Nat) (kl : List Int) (At : Option Addr) (ct : Nat) (nodes : List S66) (root : Int) (R0 : Nat) (h0 : R0 = runF (fun x => x == 19) 1 ((kindsOf nodes kl).drop (0))) (R1 : Nat) (h1 : R1 = runF exB 4000 ((kindsOf nodes kl).drop (0 + R0))) (w : World)
  (hK : Kd.C (Kd.int .i64) w Ak kl.length kl) (hT : Kd.C k66 w At nodes.length nodes) (hck : kl.length ≤ ck) (hct : nodes.length ≤ ct) (hkl : kl.length ≤ 4000) (hnl : nodes.length ≤ 4000) (hin : ∀ x ∈ kl,0 ≤ x ∧ x < nodes.length) :
  Calls Tryz.prog 61 #[.agg #[.slice At nodes.length ct,.int .i64 root],nodeV 13 n at_ tx Ak kl.length ck] w fun e w' => e = .returned (.bool (((R0 : Int) == 1) && (((0 + R0 + R1 : Nat) : Int) == (kl.length : Int)))) ∧ Below w.heap.size w w':=by
 have hmf:=@hmf_ Tryz.prog
 have HKS:=Lib.hid (KS.start (k:=13) (n:=n) (at_:=at_) (tx:=tx) (root:=root) hK hT hck hct hkl hnl hin)
 have HR0:=Lib.hid h0
 have HR1:=Lib.hid h1
 clear hK hT hin h0 h1
 unfold nodeV
 go_enter Tryz.func61,Tryz.ntmps61
 go_wp2_with fail
 obtain ⟨W0,hW0⟩ : ∃ W_,W_ = ((w.alloc (.cells #[.slice At nodes.length ct,.int .i64 root] 24)).alloc (.cells #[.int .i64 13,.int .i64 n,.int .i64 at_,.string tx,.slice Ak kl.length ck] 66)).alloc (.cells #[.int .i64 0] 3):=⟨_,rfl⟩
 rw [← hW0] at HKS ⊢
 have S0:=HKS
 clear hW0 HKS
 refine (is_new 19 W0).mono ?_
 rintro e_ w_ ⟨rfl,rfl⟩
 go_wp2_with fail
 refine (take_is _ 19 1 (by decide) (by decide) S0.out).mono ?_
 rintro e_ W1 ⟨R_,rfl,HR_,S1⟩
 obtain rfl : R0 = R_:=HR0.out.trans HR_.out.symm
 clear HR_ S0
 go_wp2_with fail
 refine (zBb _ 4000 (by decide) (by decide) S1.out).mono ?_
 rintro e_ W2 ⟨R_,rfl,HR_,S2⟩
 obtain rfl : R1 = R_:=HR1.out.trans HR_.out.symm
 clear HR_ S1
 obtain ⟨iN,hiN⟩ : ∃ i_ : Nat,i_ = 0 + R0 + R1:=⟨_,rfl⟩
 rw [← hiN] at S2
 have HIN:=Lib.hid hiN
 clear hiN
 by_cases hl : R0 = 1
 ·have ql : ((R0 : Int) == 1) = true:=by simp [hl]
  go_wp2_with fail
  refine (end_st _ S2.out).mono ?_
  rintro e_ w_ ⟨rfl,rfl⟩
  go_wp2_with fail
  go_ret
  exact ⟨by rw [ql,Bool.true_and,← HIN.out]; rfl,S2.out.2.2.1⟩
 ·have ql : ((R0 : Int) == 1) = false:=by simp; omega
  go_wp2_with fail
  go_ret
  exact ⟨by rw [ql,Bool.false_and]; rfl,S2.out.2.2.1⟩
theorem kids_2 (n at_ : Int) (tx : ByteArray) (Ak : Option Addr) (ck : Nat) (kl : List Int) (At : Option Addr) (ct : Nat) (nodes : List S66) (root : Int) (w : World)
  (hK : Kd.C (Kd.int .i64) w Ak kl.length kl) (hT : Kd.C k66 w At nodes.length nodes) (hck : kl.length ≤ ck) (hct : nodes.length ≤ ct) (hkl : kl.length ≤ 4000) (hnl : nodes.length ≤ 4000) (hin : ∀ x ∈ kl,0 ≤ x ∧ x < nodes.length) :
  Calls Tryz.prog 61 #[.agg #[.slice At nodes.length ct,.int .i64 root],nodeV 2 n at_ tx Ak kl.length ck] w fun e w' => e = .returned (.bool ((((0 : Nat) : Int) == (kl.length : Int)))) ∧ Below w.heap.size w w':=by
 have hmf:=@hmf_ Tryz.prog
 have HKS:=Lib.hid (KS.start (k:=2) (n:=n) (at_:=at_) (tx:=tx) (root:=root) hK hT hck hct hkl hnl hin)
 clear hK hT hin
 unfold nodeV
 go_enter Tryz.func61,Tryz.ntmps61
 go_wp2_with fail
 obtain ⟨W0,hW0⟩ : ∃ W_,W_ = ((w.alloc (.cells #[.slice At nodes.length ct,.int .i64 root] 24)).alloc (.cells #[.int .i64 2,.int .i64 n,.int .i64 at_,.string tx,.slice Ak kl.length ck] 66)).alloc (.cells #[.int .i64 0] 3):=⟨_,rfl⟩
 rw [← hW0] at HKS ⊢
 have S0:=HKS
 clear hW0 HKS
 obtain ⟨iN,hiN⟩ : ∃ i_ : Nat,i_ = 0:=⟨_,rfl⟩
 have S0_ : Hid (KS w 2 n at_ tx Ak ck kl At ct nodes root W0 iN):=Lib.hid (by rw [hiN]; exact S0.out)
 clear S0
 have S0:=S0_
 clear S0_
 have HIN:=Lib.hid hiN
 clear hiN
 refine (end_st _ S0.out).mono ?_
 rintro e_ w_ ⟨rfl,rfl⟩
 go_wp2_with fail
 go_ret
 exact ⟨by rw [← HIN.out]; rfl,S0.out.2.2.1⟩
theorem kids_18 (n at_ : Int) (tx : ByteArray) (Ak : Option Addr) (ck : Nat) (kl : List Int) (At : Option Addr) (ct : Nat) (nodes : List S66) (root : Int) (w : World)
  (hK : Kd.C (Kd.int .i64) w Ak kl.length kl) (hT : Kd.C k66 w At nodes.length nodes) (hck : kl.length ≤ ck) (hct : nodes.length ≤ ct) (hkl : kl.length ≤ 4000) (hnl : nodes.length ≤ 4000) (hin : ∀ x ∈ kl,0 ≤ x ∧ x < nodes.length) :
  Calls Tryz.prog 61 #[.agg #[.slice At nodes.length ct,.int .i64 root],nodeV 18 n at_ tx Ak kl.length ck] w fun e w' => e = .returned (.bool ((((0 : Nat) : Int) == (kl.length : Int)))) ∧ Below w.heap.size w w':=by
 have hmf:=@hmf_ Tryz.prog
 have HKS:=Lib.hid (KS.start (k:=18) (n:=n) (at_:=at_) (tx:=tx) (root:=root) hK hT hck hct hkl hnl hin)
 clear hK hT hin
 unfold nodeV
 go_enter Tryz.func61,Tryz.ntmps61
 go_wp2_with fail
 obtain ⟨W0,hW0⟩ : ∃ W_,W_ = ((w.alloc (.cells #[.slice At nodes.length ct,.int .i64 root] 24)).alloc (.cells #[.int .i64 18,.int .i64 n,.int .i64 at_,.string tx,.slice Ak kl.length ck] 66)).alloc (.cells #[.int .i64 0] 3):=⟨_,rfl⟩
 rw [← hW0] at HKS ⊢
 have S0:=HKS
 clear hW0 HKS
 obtain ⟨iN,hiN⟩ : ∃ i_ : Nat,i_ = 0:=⟨_,rfl⟩
 have S0_ : Hid (KS w 18 n at_ tx Ak ck kl At ct nodes root W0 iN):=Lib.hid (by rw [hiN]; exact S0.out)
 clear S0
 have S0:=S0_
 clear S0_
 have HIN:=Lib.hid hiN
 clear hiN
 refine (end_st _ S0.out).mono ?_
 rintro e_ w_ ⟨rfl,rfl⟩
 go_wp2_with fail
 go_ret
 exact ⟨by rw [← HIN.out]; rfl,S0.out.2.2.1⟩
theorem kids_21 (n at_ : Int) (tx : ByteArray) (Ak : Option Addr) (ck : Nat) (kl : List Int) (At : Option Addr) (ct : Nat) (nodes : List S66) (root : Int) (w : World)
  (hK : Kd.C (Kd.int .i64) w Ak kl.length kl) (hT : Kd.C k66 w At nodes.length nodes) (hck : kl.length ≤ ck) (hct : nodes.length ≤ ct) (hkl : kl.length ≤ 4000) (hnl : nodes.length ≤ 4000) (hin : ∀ x ∈ kl,0 ≤ x ∧ x < nodes.length) :
  Calls Tryz.prog 61 #[.agg #[.slice At nodes.length ct,.int .i64 root],nodeV 21 n at_ tx Ak kl.length ck] w fun e w' => e = .returned (.bool ((((0 : Nat) : Int) == (kl.length : Int)))) ∧ Below w.heap.size w w':=by
 have hmf:=@hmf_ Tryz.prog
 have HKS:=Lib.hid (KS.start (k:=21) (n:=n) (at_:=at_) (tx:=tx) (root:=root) hK hT hck hct hkl hnl hin)
 clear hK hT hin
 unfold nodeV
 go_enter Tryz.func61,Tryz.ntmps61
 go_wp2_with fail
 obtain ⟨W0,hW0⟩ : ∃ W_,W_ = ((w.alloc (.cells #[.slice At nodes.length ct,.int .i64 root] 24)).alloc (.cells #[.int .i64 21,.int .i64 n,.int .i64 at_,.string tx,.slice Ak kl.length ck] 66)).alloc (.cells #[.int .i64 0] 3):=⟨_,rfl⟩
 rw [← hW0] at HKS ⊢
 have S0:=HKS
 clear hW0 HKS
 obtain ⟨iN,hiN⟩ : ∃ i_ : Nat,i_ = 0:=⟨_,rfl⟩
 have S0_ : Hid (KS w 21 n at_ tx Ak ck kl At ct nodes root W0 iN):=Lib.hid (by rw [hiN]; exact S0.out)
 clear S0
 have S0:=S0_
 clear S0_
 have HIN:=Lib.hid hiN
 clear hiN
 refine (end_st _ S0.out).mono ?_
 rintro e_ w_ ⟨rfl,rfl⟩
 go_wp2_with fail
 go_ret
 exact ⟨by rw [← HIN.out]; rfl,S0.out.2.2.1⟩
theorem kids_25 (n at_ : Int) (tx : ByteArray) (Ak : Option Addr) (ck : Nat) (kl : List Int) (At : Option Addr) (ct : Nat) (nodes : List S66) (root : Int) (w : World)
  (hK : Kd.C (Kd.int .i64) w Ak kl.length kl) (hT : Kd.C k66 w At nodes.length nodes) (hck : kl.length ≤ ck) (hct : nodes.length ≤ ct) (hkl : kl.length ≤ 4000) (hnl : nodes.length ≤ 4000) (hin : ∀ x ∈ kl,0 ≤ x ∧ x < nodes.length) :
  Calls Tryz.prog 61 #[.agg #[.slice At nodes.length ct,.int .i64 root],nodeV 25 n at_ tx Ak kl.length ck] w fun e w' => e = .returned (.bool ((((0 : Nat) : Int) == (kl.length : Int)))) ∧ Below w.heap.size w w':=by
 have hmf:=@hmf_ Tryz.prog
 have HKS:=Lib.hid (KS.start (k:=25) (n:=n) (at_:=at_) (tx:=tx) (root:=root) hK hT hck hct hkl hnl hin)
 clear hK hT hin
 unfold nodeV
 go_enter Tryz.func61,Tryz.ntmps61
 go_wp2_with fail
 obtain ⟨W0,hW0⟩ : ∃ W_,W_ = ((w.alloc (.cells #[.slice At nodes.length ct,.int .i64 root] 24)).alloc (.cells #[.int .i64 25,.int .i64 n,.int .i64 at_,.string tx,.slice Ak kl.length ck] 66)).alloc (.cells #[.int .i64 0] 3):=⟨_,rfl⟩
 rw [← hW0] at HKS ⊢
 have S0:=HKS
 clear hW0 HKS
 obtain ⟨iN,hiN⟩ : ∃ i_ : Nat,i_ = 0:=⟨_,rfl⟩
 have S0_ : Hid (KS w 25 n at_ tx Ak ck kl At ct nodes root W0 iN):=Lib.hid (by rw [hiN]; exact S0.out)
 clear S0
 have S0:=S0_
 clear S0_
 have HIN:=Lib.hid hiN
 clear hiN
 refine (end_st _ S0.out).mono ?_
 rintro e_ w_ ⟨rfl,rfl⟩
 go_wp2_with fail
 go_ret
 exact ⟨by rw [← HIN.out]; rfl,S0.out.2.2.1⟩
attribute [local go_sem] zAP zAQ max_two min_two zAK zAJ zAS zAR
def zAH.j0 : Nat → Int → Bool → Int → Int → Int → ByteArray → List Int → Option (Bool)
 | 0,_,_,_,_,_,_,_ => none
 | k + 1,x4,x5,x507000,x507001,x507002,x507003,x507004 => if x5 = true then (if x507001 ≥ 1 then (some (decide (x507001 ≤ 4))) else (some false)) else (if x4 = 3 then (if x507001 ≥ 0 then (some (decide (x507001 ≤ 4))) else (some false)) else (if x4 = 20 then (some (decide (x507001 ≥ 0))) else (if x4 = 21 then (if x507001 = 0 then (some true) else (some (x507001 == 1))) else (some (x507001 == 0)))))
def zAH.f (k : Nat) (a0_0 : Int) (a0_1 : Int) (a0_2 : Int) (a0_3 : ByteArray) (l0_4 : List Int) : Option (Bool):=if a0_0 = 2 then (zAH.j0 k a0_0 (a0_0 == 2) a0_0 a0_1 a0_2 a0_3 l0_4) else (if a0_0 = 4 then (zAH.j0 k a0_0 (a0_0 == 4) a0_0 a0_1 a0_2 a0_3 l0_4) else (zAH.j0 k a0_0 (a0_0 == 5) a0_0 a0_1 a0_2 a0_3 l0_4))
theorem zAH.calls (k : Nat) (a0_0 : Int) (a0_1 : Int) (a0_2 : Int) (a0_3 : ByteArray) (A0_4 : Option Addr) (c0_4 : Nat) (l0_4 : List Int) (r : Bool) (w : World) (hr0_4 : Kd.C (Kd.int .i64) w A0_4 l0_4.length l0_4) (hc0_4 : l0_4.length ≤ c0_4) (h : zAH.f k a0_0 a0_1 a0_2 a0_3 l0_4 = some r) :
  Calls Tryz.prog 60 #[.agg #[.int .i64 a0_0,.int .i64 a0_1,.int .i64 a0_2,.string a0_3,.slice A0_4 l0_4.length c0_4]] w fun e w' => e = .returned (.bool r) ∧ Below w.heap.size w w':=by
 have hu66:=Tryz.underlying66
 have HR0_4:=Aside0.mk hr0_4
 have HC0_4:=Aside0.mk hc0_4
 clear hr0_4 hc0_4
 have HB:=Aside0.mk (Below.refl w.heap.size w)
 have H : (if a0_0 = 2 then (zAH.j0 k a0_0 (a0_0 == 2) a0_0 a0_1 a0_2 a0_3 l0_4) else (if a0_0 = 4 then (zAH.j0 k a0_0 (a0_0 == 4) a0_0 a0_1 a0_2 a0_3 l0_4) else (zAH.j0 k a0_0 (a0_0 == 5) a0_0 a0_1 a0_2 a0_3 l0_4))) = some r:=h
 clear h
 have HC2:=Aside0.mk H
 clear H
 go_enter Tryz.func60,Tryz.ntmps60
 go_upto_if 5 with (first | ((with_reducible refine zAZ (N:=1) rfl ?_); refine zBa ?hg (N:=1) ?hd (cs:=#[.int .i64 a0_0,.int .i64 a0_1,.int .i64 a0_2,.string a0_3,.slice A0_4 l0_4.length c0_4]) (t:=66) ?hr ?_; (case hd => rfl); (case hg => rfl); (case hr => first | (go_simp; done) | (go_simp; rfl)); intro gb506 hg w3 hbox hb; have n0_:=Aside0.mk (zAd (by repeat (first | (with_reducible first | exact HB.out | apply zAa | apply zAf | apply zAi) | exact HB.out)) hb); have n1_:=Aside0.mk (hbox); have n2_:=Aside0.mk ((by rw [hg]; exact (zAy (by repeat (first | (with_reducible first | exact HB.out | apply zAa | apply zAf | apply zAi) | exact HB.out))) : w.heap.size ≤ gb506)); have n3_:=Aside0.mk ((by rw [hg]; exact (zAy (by repeat (first | (with_reducible first | exact HB.out | apply zAa | apply zAf | apply zAi) | exact HB.out))) : w.heap.size ≤ gb506)); clear HB; have HB:=n0_; have BK506:=n1_; have GW506:=n2_; have GE506:=n3_; clear n0_ n1_ n2_ n3_; clear hb hbox hg; have hcz4_0 : w3.cell? ⟨gb506,0,none⟩ = some (.int .i64 a0_0):=(zAh BK506.out 0).trans rfl; have hcz4_1 : w3.cell? ⟨gb506,1,none⟩ = some (.int .i64 a0_1):=(zAh BK506.out 1).trans rfl; have hcz4_2 : w3.cell? ⟨gb506,2,none⟩ = some (.int .i64 a0_2):=(zAh BK506.out 2).trans rfl; have hcz4_3 : w3.cell? ⟨gb506,3,none⟩ = some (.string a0_3):=(zAh BK506.out 3).trans rfl; have hcz4_4 : w3.cell? ⟨gb506,4,none⟩ = some (.slice A0_4 l0_4.length c0_4):=(zAh BK506.out 4).trans rfl; have hfz4_0:=zAc BK506.out 0; have hfz4_1:=zAc BK506.out 1; have hfz4_2:=zAc BK506.out 2; have hfz4_3:=zAc BK506.out 3; have hfz4_4:=zAc BK506.out 4))
 (try simp only [Act.put,List.setIfInBounds_toArray,List.set_cons_zero,List.set_cons_succ])
 go_cut [5] (fun v5 wc => ∃ (kq : Nat) (x5_1 : Bool),v5 = .bool x5_1 ∧ Aside0 (zAH.j0 kq a0_0 x5_1 a0_0 a0_1 a0_2 a0_3 l0_4 = some r) ∧ Aside0 (kq ≤ k) ∧ Aside0 (wc.heap[gb506]? = some (.cells #[.int .i64 a0_0,.int .i64 a0_1,.int .i64 a0_2,.string a0_3,(.slice A0_4 l0_4.length c0_4)] 66 (0,0))) ∧ Aside0 (Below w.heap.size w wc))
 case first =>
  have H:=HC2.out
  clear HC2
  by_cases c5 : a0_0 = 2
  ·rw [if_pos c5] at H
   have c5b0 : (a0_0 == 2) = true:=beq_iff_eq.mpr c5
   have c5b1 : (a0_0 != 2) = false:=bne_eq_false_iff_eq.mpr c5
   clear c5
   (first | rw [c5b0] | (simp only [i64_w,i32_w]; rw [c5b0]) | skip)
   have H':=Aside0.mk H
   clear H
   go_wp2
   go_meet
   case rel => exact ⟨_,((a0_0 == 2)),(by first | rfl | (simp; done) | (simp [*]; done)),H',⟨by first | omega | exact Nat.le_refl _⟩,⟨by (with_reducible repeat (first | apply zAo | apply zAl | apply zAj)); exact BK506.out⟩,⟨by repeat (first | (with_reducible first | exact HB.out | apply zAa | apply zAf | apply zAi | refine zAu ?_ GE506.out) | exact HB.out)⟩⟩
  ·rw [if_neg c5] at H
   have c5b0 : (a0_0 == 2) = false:=beq_eq_false_iff_ne.mpr c5
   have c5b1 : (a0_0 != 2) = true:=bne_iff_ne.mpr c5
   (first | rw [c5b0] | (simp only [i64_w,i32_w]; rw [c5b0]) | skip)
   by_cases c6 : a0_0 = 4
   ·rw [if_pos c6] at H
    have c6b0 : (a0_0 == 4) = true:=beq_iff_eq.mpr c6
    have c6b1 : (a0_0 != 4) = false:=bne_eq_false_iff_eq.mpr c6
    clear c6
    have H':=Aside0.mk H
    clear H
    go_wp2
    go_meet
    case rel => exact ⟨_,((a0_0 == 4)),(by first | rfl | (simp; done) | (simp [*]; done)),H',⟨by first | omega | exact Nat.le_refl _⟩,⟨by (with_reducible repeat (first | apply zAo | apply zAl | apply zAj)); exact BK506.out⟩,⟨by repeat (first | (with_reducible first | exact HB.out | apply zAa | apply zAf | apply zAi | refine zAu ?_ GE506.out) | exact HB.out)⟩⟩
   ·rw [if_neg c6] at H
    have c6b0 : (a0_0 == 4) = false:=beq_eq_false_iff_ne.mpr c6
    have c6b1 : (a0_0 != 4) = true:=bne_iff_ne.mpr c6
    have H':=Aside0.mk H
    clear H
    go_wp2
    go_meet
    case rel => exact ⟨_,((a0_0 == 5)),(by first | rfl | (simp; done) | (simp [*]; done)),H',⟨by first | omega | exact Nat.le_refl _⟩,⟨by (with_reducible repeat (first | apply zAo | apply zAl | apply zAj)); exact BK506.out⟩,⟨by repeat (first | (with_reducible first | exact HB.out | apply zAa | apply zAf | apply zAi | refine zAu ?_ GE506.out) | exact HB.out)⟩⟩
 case rest =>
  clear HC2
  try clear p2
  try clear c5
  try clear c5b0
  try clear c5b1
  try clear c6
  try clear c6b0
  try clear c6b1
  try clear hcz4_0
  try clear hcz4_1
  try clear hcz4_2
  try clear hcz4_3
  try clear hcz4_4
  try clear hfz4_0
  try clear hfz4_1
  try clear hfz4_2
  try clear hfz4_3
  try clear hfz4_4
  obtain ⟨kq,x5_1,rfl,HA,HJ1,BK506,HB⟩:=hcut
  cases kq with
  | zero => exact absurd HA.out (by simp [zAH.j0])
  | succ kj1 =>
   have H:=HA.out
   clear HA
   simp only [zAH.j0] at H
   by_cases c7 : x5_1 = true
   ·subst c7
    have H1 : (if a0_1 ≥ 1 then (some (decide (a0_1 ≤ 4))) else (some false)) = some r:=by rw [if_pos rfl] at H; exact H
    clear H
    have H:=H1
    clear H1
    by_cases c8 : a0_1 ≥ 1
    ·rw [if_pos c8] at H
     have c8b0 : decide (1 ≤ a0_1) = true:=decide_eq_true c8
     clear c8
     obtain rfl:=Option.some.inj H
     have hcz9_0:=bc_ BK506.out 0
     have hcz9_1:=bc_ BK506.out 1
     have hcz9_2:=bc_ BK506.out 2
     have hcz9_3:=bc_ BK506.out 3
     have hcz9_4:=bc_ BK506.out 4
     have hfz9_0:=zAc BK506.out 0
     have hfz9_1:=zAc BK506.out 1
     have hfz9_2:=zAc BK506.out 2
     have hfz9_3:=zAc BK506.out 3
     have hfz9_4:=zAc BK506.out 4
     go_wp2
     go_ret
     exact ⟨by first | rfl | (simp [zAs,zAt] <;> rfl) | (simp [*,zAs,zAt] <;> rfl),by repeat (first | (with_reducible first | exact HB.out | apply zAa | apply zAf | apply zAi | refine zAu ?_ GE506.out) | exact HB.out)⟩
    ·rw [if_neg c8] at H
     have c8b0 : decide (1 ≤ a0_1) = false:=decide_eq_false c8
     clear c8
     obtain rfl:=Option.some.inj H
     have hcz10_0:=bc_ BK506.out 0
     have hcz10_1:=bc_ BK506.out 1
     have hcz10_2:=bc_ BK506.out 2
     have hcz10_3:=bc_ BK506.out 3
     have hcz10_4:=bc_ BK506.out 4
     have hfz10_0:=zAc BK506.out 0
     have hfz10_1:=zAc BK506.out 1
     have hfz10_2:=zAc BK506.out 2
     have hfz10_3:=zAc BK506.out 3
     have hfz10_4:=zAc BK506.out 4
     go_wp2
     go_ret
     exact ⟨by first | rfl | (simp [zAs,zAt] <;> rfl) | (simp [*,zAs,zAt] <;> rfl),by repeat (first | (with_reducible first | exact HB.out | apply zAa | apply zAf | apply zAi | refine zAu ?_ GE506.out) | exact HB.out)⟩
   ·replace c7:=Bool.eq_false_iff.mpr c7
    subst c7
    have H1 : (if a0_0 = 3 then (if a0_1 ≥ 0 then (some (decide (a0_1 ≤ 4))) else (some false)) else (if a0_0 = 20 then (some (decide (a0_1 ≥ 0))) else (if a0_0 = 21 then (if a0_1 = 0 then (some true) else (some (a0_1 == 1))) else (some (a0_1 == 0))))) = some r:=by rw [if_neg (show ¬ (false = true) by decide)] at H; exact H
    clear H
    have H:=H1
    clear H1
    by_cases c11 : a0_0 = 3
    ·rw [if_pos c11] at H
     have c11b0 : (a0_0 == 3) = true:=beq_iff_eq.mpr c11
     have c11b1 : (a0_0 != 3) = false:=bne_eq_false_iff_eq.mpr c11
     clear c11
     by_cases c12 : a0_1 ≥ 0
     ·rw [if_pos c12] at H
      have c12b0 : decide (0 ≤ a0_1) = true:=decide_eq_true c12
      clear c12
      obtain rfl:=Option.some.inj H
      have hcz13_0:=bc_ BK506.out 0
      have hcz13_1:=bc_ BK506.out 1
      have hcz13_2:=bc_ BK506.out 2
      have hcz13_3:=bc_ BK506.out 3
      have hcz13_4:=bc_ BK506.out 4
      have hfz13_0:=zAc BK506.out 0
      have hfz13_1:=zAc BK506.out 1
      have hfz13_2:=zAc BK506.out 2
      have hfz13_3:=zAc BK506.out 3
      have hfz13_4:=zAc BK506.out 4
      go_wp2
      go_ret
      exact ⟨by first | rfl | (simp [zAs,zAt] <;> rfl) | (simp [*,zAs,zAt] <;> rfl),by repeat (first | (with_reducible first | exact HB.out | apply zAa | apply zAf | apply zAi | refine zAu ?_ GE506.out) | exact HB.out)⟩
     ·rw [if_neg c12] at H
      have c12b0 : decide (0 ≤ a0_1) = false:=decide_eq_false c12
      clear c12
      obtain rfl:=Option.some.inj H
      have hcz14_0:=bc_ BK506.out 0
      have hcz14_1:=bc_ BK506.out 1
      have hcz14_2:=bc_ BK506.out 2
      have hcz14_3:=bc_ BK506.out 3
      have hcz14_4:=bc_ BK506.out 4
      have hfz14_0:=zAc BK506.out 0
      have hfz14_1:=zAc BK506.out 1
      have hfz14_2:=zAc BK506.out 2
      have hfz14_3:=zAc BK506.out 3
      have hfz14_4:=zAc BK506.out 4
      go_wp2
      go_ret
      exact ⟨by first | rfl | (simp [zAs,zAt] <;> rfl) | (simp [*,zAs,zAt] <;> rfl),by repeat (first | (with_reducible first | exact HB.out | apply zAa | apply zAf | apply zAi | refine zAu ?_ GE506.out) | exact HB.out)⟩
    ·rw [if_neg c11] at H
     have c11b0 : (a0_0 == 3) = false:=beq_eq_false_iff_ne.mpr c11
     have c11b1 : (a0_0 != 3) = true:=bne_iff_ne.mpr c11
     by_cases c15 : a0_0 = 20
     ·rw [if_pos c15] at H
      have c15b0 : (a0_0 == 20) = true:=beq_iff_eq.mpr c15
      have c15b1 : (a0_0 != 20) = false:=bne_eq_false_iff_eq.mpr c15
      clear c15
      obtain rfl:=Option.some.inj H
      have hcz16_0:=bc_ BK506.out 0
      have hcz16_1:=bc_ BK506.out 1
      have hcz16_2:=bc_ BK506.out 2
      have hcz16_3:=bc_ BK506.out 3
      have hcz16_4:=bc_ BK506.out 4
      have hfz16_0:=zAc BK506.out 0
      have hfz16_1:=zAc BK506.out 1
      have hfz16_2:=zAc BK506.out 2
      have hfz16_3:=zAc BK506.out 3
      have hfz16_4:=zAc BK506.out 4
      go_wp2
      go_ret
      exact ⟨by first | rfl | (simp [zAs,zAt] <;> rfl) | (simp [*,zAs,zAt] <;> rfl),by repeat (first | (with_reducible first | exact HB.out | apply zAa | apply zAf | apply zAi | refine zAu ?_ GE506.out) | exact HB.out)⟩
     ·rw [if_neg c15] at H
      have c15b0 : (a0_0 == 20) = false:=beq_eq_false_iff_ne.mpr c15
      have c15b1 : (a0_0 != 20) = true:=bne_iff_ne.mpr c15
      by_cases c17 : a0_0 = 21
      ·rw [if_pos c17] at H
       have c17b0 : (a0_0 == 21) = true:=beq_iff_eq.mpr c17
       have c17b1 : (a0_0 != 21) = false:=bne_eq_false_iff_eq.mpr c17
       clear c17
       by_cases c18 : a0_1 = 0
       ·rw [if_pos c18] at H
        have c18b0 : (a0_1 == 0) = true:=beq_iff_eq.mpr c18
        have c18b1 : (a0_1 != 0) = false:=bne_eq_false_iff_eq.mpr c18
        clear c18
        obtain rfl:=Option.some.inj H
        have hcz19_0:=bc_ BK506.out 0
        have hcz19_1:=bc_ BK506.out 1
        have hcz19_2:=bc_ BK506.out 2
        have hcz19_3:=bc_ BK506.out 3
        have hcz19_4:=bc_ BK506.out 4
        have hfz19_0:=zAc BK506.out 0
        have hfz19_1:=zAc BK506.out 1
        have hfz19_2:=zAc BK506.out 2
        have hfz19_3:=zAc BK506.out 3
        have hfz19_4:=zAc BK506.out 4
        go_wp2
        go_ret
        exact ⟨by first | rfl | (simp [zAs,zAt] <;> rfl) | (simp [*,zAs,zAt] <;> rfl),by repeat (first | (with_reducible first | exact HB.out | apply zAa | apply zAf | apply zAi | refine zAu ?_ GE506.out) | exact HB.out)⟩
       ·rw [if_neg c18] at H
        have c18b0 : (a0_1 == 0) = false:=beq_eq_false_iff_ne.mpr c18
        have c18b1 : (a0_1 != 0) = true:=bne_iff_ne.mpr c18
        obtain rfl:=Option.some.inj H
        have hcz20_0:=bc_ BK506.out 0
        have hcz20_1:=bc_ BK506.out 1
        have hcz20_2:=bc_ BK506.out 2
        have hcz20_3:=bc_ BK506.out 3
        have hcz20_4:=bc_ BK506.out 4
        have hfz20_0:=zAc BK506.out 0
        have hfz20_1:=zAc BK506.out 1
        have hfz20_2:=zAc BK506.out 2
        have hfz20_3:=zAc BK506.out 3
        have hfz20_4:=zAc BK506.out 4
        go_wp2
        go_ret
        exact ⟨by first | rfl | (simp [zAs,zAt] <;> rfl) | (simp [*,zAs,zAt] <;> rfl),by repeat (first | (with_reducible first | exact HB.out | apply zAa | apply zAf | apply zAi | refine zAu ?_ GE506.out) | exact HB.out)⟩
      ·rw [if_neg c17] at H
       have c17b0 : (a0_0 == 21) = false:=beq_eq_false_iff_ne.mpr c17
       have c17b1 : (a0_0 != 21) = true:=bne_iff_ne.mpr c17
       obtain rfl:=Option.some.inj H
       have hcz21_0:=bc_ BK506.out 0
       have hcz21_1:=bc_ BK506.out 1
       have hcz21_2:=bc_ BK506.out 2
       have hcz21_3:=bc_ BK506.out 3
       have hcz21_4:=bc_ BK506.out 4
       have hfz21_0:=zAc BK506.out 0
       have hfz21_1:=zAc BK506.out 1
       have hfz21_2:=zAc BK506.out 2
       have hfz21_3:=zAc BK506.out 3
       have hfz21_4:=zAc BK506.out 4
       go_wp2
       go_ret
       exact ⟨by first | rfl | (simp [zAs,zAt] <;> rfl) | (simp [*,zAs,zAt] <;> rfl),by repeat (first | (with_reducible first | exact HB.out | apply zAa | apply zAf | apply zAi | refine zAu ?_ GE506.out) | exact HB.out)⟩
end Go.Proofs.YtkhlfdcjgooogaaGreat.P
