import Derived.Test.YtkhlfdcjgooogaaGreatWMore
import Derived.Test.YtkhlfdcjgooogaaGreatTyF
set_option maxRecDepth 100000
set_option maxHeartbeats 16000000
set_option linter.unusedVariables false
set_option linter.unusedSimpArgs false
set_option linter.unusedSectionVars false
namespace Go.Proofs.YtkhlfdcjgooogaaGreat.P
open Go.RowKit Go.Proofs.YtkhlfdcjgooogaaGreatW.PrintWords Go.Proofs.YtkhlfdcjgooogaaGreatW.PrintLast Go.Proofs.YtkhlfdcjgooogaaGreatW.PrintMore
def namedF (ns : List S66) (ol : List Int) (q : Int) (r : Bool) : Int:=if meansF ns ol q (nmOf ns q) = -1 then 3 else if r = true then 0 else 5
theorem zDm (p : Nat) (At : Option Addr) (ct : Nat) (ns : List S66) (root : Int) (ol : List Int) (q : Int) (h0 : 0 ≤ q) (h1 : q < ns.length) (w : World) (hS : Sc p At ct ns root ol w) :
  Calls Tryz.prog 104 #[.pointer (some ⟨p,0,none⟩),.int .i64 q,.string (rd_T66 ns q).f3] w fun e w' => e = .returned (.int .i64 (meansF ns ol q (nmOf ns q))) ∧ Below w.heap.size w w' :=
 zCW p At ct ns root ol q h0 h1 _ (KidsIn.size hS h0 h1) w hS
theorem kind_at (p : Nat) (At : Option Addr) (ct : Nat) (ns : List S66) (root : Int) (ol : List Int) (q : Int) (h0 : 0 ≤ q) (h1 : q < ns.length) (w : World) (hS : Sc p At ct ns root ol w) :
  Calls Tryz.prog 105 #[.pointer (some ⟨p,0,none⟩),.int .i64 q,.string (rd_T66 ns q).f3] w fun e w' => e = .returned (.int .i64 (kindF ns ol q (nmOf ns q))) ∧ Below w.heap.size w w' :=
 kind_is p At ct ns root ol q h0 h1 _ (KidsIn.size hS h0 h1) w hS
theorem named_any (p : Nat) (At : Option Addr) (ct : Nat) (ns : List S66) (root : Int) (ol : List Int) (q : Int) (h0 : 0 ≤ q) (h1 : q < ns.length) (r : Bool) (w : World) (hS : Sc p At ct ns root ol w)
  (hF : ∀ w',Below w.heap.size w w' → Calls Tryz.prog 68 #[.int .i64 (kindF ns ol q (nmOf ns q))] w' fun e w'' => e = .returned (.bool r) ∧ Below w'.heap.size w' w'') :
  Calls Tryz.prog 67 #[.pointer (some ⟨p,0,none⟩),.int .i64 q,.func (.func 68) #[] #[]] w fun e w' => e = .returned (.int .i64 (namedF ns ol q r)) ∧ Below w.heap.size w w':=by
 have HF:=Lib.hid hF
 have HM:=Lib.hid (fun (w' : World) (hb : Below w.heap.size w w') => zDm p At ct ns root ol q h0 h1 w' (hS.below hb))
 have HK:=Lib.hid (fun (w' : World) (hb : Below w.heap.size w w') => kind_at p At ct ns root ol q h0 h1 w' (hS.below hb))
 unfold namedF
 obtain ⟨m,hm⟩ : ∃ m,m = meansF ns ol q (nmOf ns q):=⟨_,rfl⟩
 obtain ⟨k,hk⟩ : ∃ k,k = kindF ns ol q (nmOf ns q):=⟨_,rfl⟩
 rw [← hm] at HM ⊢
 rw [← hk] at HK HF
 obtain ⟨R,hR⟩ : ∃ R : Int,R = if m = -1 then 3 else if r = true then 0 else 5:=⟨_,rfl⟩
 rw [← hR]
 have HR:=Lib.hid hR
 obtain ⟨bo,g,r0,l,Lb,h⟩:=hS
 have c0:=bc_ h.hp 0
 obtain ⟨ad,A4,c4,eA,z0,z1,z2,z3,z4,l4,g4⟩:=at_T66 h.hC q h0 h1
 have e0:=eq_true h0
 have e1:=eq_true h1
 obtain ⟨x,hx⟩ : ∃ x,x = rd_T66 ns q:=⟨_,rfl⟩
 rw [← hx] at z0 z1 z2 z3 z4 HM HK
 obtain ⟨kd,n,at_,tx,kl⟩:=x
 dsimp only at z0 z1 z2 z3 z4 HM HK
 cases eA
 clear h hm hk hx hF hR l4 g4
 go_enter Tryz.func67,Tryz.ntmps67
 go_wp2_with fail
 have hb0 : Below w.heap.size w (w.alloc (.cells #[.int .i64 kd,.int .i64 n,.int .i64 at_,.string tx,.slice A4 kl.length c4] 66)):=zAa (Below.refl _ _) _
 have x0:=heap_alloc_new w (.cells #[.int .i64 kd,.int .i64 n,.int .i64 at_,.string tx,.slice A4 kl.length c4] 66)
 obtain ⟨W0,hW0⟩ : ∃ W0,W0 = w.alloc (.cells #[.int .i64 kd,.int .i64 n,.int .i64 at_,.string tx,.slice A4 kl.length c4] 66):=⟨_,rfl⟩
 rw [← hW0] at hb0 x0 ⊢
 have HB0:=Lib.hid hb0
 have X0:=Lib.hid x0
 clear hW0 hb0 x0 z0 z1 z2 z3 z4 c0
 refine (HM.out W0 HB0.out).mono ?_
 rintro e_ W1 ⟨rfl,hb_⟩
 have HB1:=Lib.hid (zAd HB0.out hb_)
 have c3:=bc_ (zAe X0.out hb_) 3
 clear hb_
 by_cases hm : m = -1
 ·subst hm
  have hR:=HR.out
  rw [if_pos rfl] at hR
  subst hR
  go_wp2_with fail
  go_ret
  exact ⟨rfl,HB1.out⟩
 ·have hR:=HR.out
  rw [if_neg hm] at hR
  have HR':=Lib.hid hR
  clear hR HR
  go_wp2_with fail
  refine (HK.out W1 HB1.out).mono ?_
  rintro e_ W2 ⟨rfl,hb_⟩
  have HB2:=Lib.hid (zAd HB1.out hb_)
  clear hb_ c3
  go_wp2_with fail
  refine (HF.out W2 HB2.out).mono ?_
  rintro e_ W3 ⟨rfl,hb_⟩
  have HB3:=Lib.hid (zAd HB2.out hb_)
  clear hb_
  go_wp2_with fail
  refine (told_is r W3).mono ?_
  rintro e_ w_ ⟨he_,rfl⟩
  rw [← HR'.out] at he_
  subst he_
  go_wp2_with fail
  go_ret
  exact ⟨rfl,HB3.out⟩
theorem zCQ (p : Nat) (At : Option Addr) (ct : Nat) (ns : List S66) (root : Int) (ol : List Int) (q : Int) (h0 : 0 ≤ q) (h1 : q < ns.length) (b1 : Nat) (r : Bool) (w : World) (hS : Sc p At ct ns root ol w)
  (hF : ∀ w',Below w.heap.size w w' → Calls Tryz.prog 65 #[.int .i64 (kindF ns ol q (nmOf ns q)),.pointer (some ⟨b1,0,none⟩)] w' fun e w'' => e = .returned (.bool r) ∧ Below w'.heap.size w' w'') :
  Calls Tryz.prog 67 #[.pointer (some ⟨p,0,none⟩),.int .i64 q,.func (.func 65) #[] #[.pointer (some ⟨b1,0,none⟩)]] w fun e w' => e = .returned (.int .i64 (namedF ns ol q r)) ∧ Below w.heap.size w w':=by
 have HF:=Lib.hid hF
 have HM:=Lib.hid (fun (w' : World) (hb : Below w.heap.size w w') => zDm p At ct ns root ol q h0 h1 w' (hS.below hb))
 have HK:=Lib.hid (fun (w' : World) (hb : Below w.heap.size w w') => kind_at p At ct ns root ol q h0 h1 w' (hS.below hb))
 unfold namedF
 obtain ⟨m,hm⟩ : ∃ m,m = meansF ns ol q (nmOf ns q):=⟨_,rfl⟩
 obtain ⟨k,hk⟩ : ∃ k,k = kindF ns ol q (nmOf ns q):=⟨_,rfl⟩
 rw [← hm] at HM ⊢
 rw [← hk] at HK HF
 obtain ⟨R,hR⟩ : ∃ R : Int,R = if m = -1 then 3 else if r = true then 0 else 5:=⟨_,rfl⟩
 rw [← hR]
 have HR:=Lib.hid hR
 obtain ⟨bo,g,r0,l,Lb,h⟩:=hS
 have c0:=bc_ h.hp 0
 obtain ⟨ad,A4,c4,eA,z0,z1,z2,z3,z4,l4,g4⟩:=at_T66 h.hC q h0 h1
 have e0:=eq_true h0
 have e1:=eq_true h1
 obtain ⟨x,hx⟩ : ∃ x,x = rd_T66 ns q:=⟨_,rfl⟩
 rw [← hx] at z0 z1 z2 z3 z4 HM HK
 obtain ⟨kd,n,at_,tx,kl⟩:=x
 dsimp only at z0 z1 z2 z3 z4 HM HK
 cases eA
 clear h hm hk hx hF hR l4 g4
 go_enter Tryz.func67,Tryz.ntmps67
 go_wp2_with fail
 have hb0 : Below w.heap.size w (w.alloc (.cells #[.int .i64 kd,.int .i64 n,.int .i64 at_,.string tx,.slice A4 kl.length c4] 66)):=zAa (Below.refl _ _) _
 have x0:=heap_alloc_new w (.cells #[.int .i64 kd,.int .i64 n,.int .i64 at_,.string tx,.slice A4 kl.length c4] 66)
 obtain ⟨W0,hW0⟩ : ∃ W0,W0 = w.alloc (.cells #[.int .i64 kd,.int .i64 n,.int .i64 at_,.string tx,.slice A4 kl.length c4] 66):=⟨_,rfl⟩
 rw [← hW0] at hb0 x0 ⊢
 have HB0:=Lib.hid hb0
 have X0:=Lib.hid x0
 clear hW0 hb0 x0 z0 z1 z2 z3 z4 c0
 refine (HM.out W0 HB0.out).mono ?_
 rintro e_ W1 ⟨rfl,hb_⟩
 have HB1:=Lib.hid (zAd HB0.out hb_)
 have c3:=bc_ (zAe X0.out hb_) 3
 clear hb_
 by_cases hm : m = -1
 ·subst hm
  have hR:=HR.out
  rw [if_pos rfl] at hR
  subst hR
  go_wp2_with fail
  go_ret
  exact ⟨rfl,HB1.out⟩
 ·have hR:=HR.out
  rw [if_neg hm] at hR
  have HR':=Lib.hid hR
  clear hR HR
  go_wp2_with fail
  refine (HK.out W1 HB1.out).mono ?_
  rintro e_ W2 ⟨rfl,hb_⟩
  have HB2:=Lib.hid (zAd HB1.out hb_)
  clear hb_ c3
  go_wp2_with fail
  refine (HF.out W2 HB2.out).mono ?_
  rintro e_ W3 ⟨rfl,hb_⟩
  have HB3:=Lib.hid (zAd HB2.out hb_)
  clear hb_
  go_wp2_with fail
  refine (told_is r W3).mono ?_
  rintro e_ w_ ⟨he_,rfl⟩
  rw [← HR'.out] at he_
  subst he_
  go_wp2_with fail
  go_ret
  exact ⟨rfl,HB3.out⟩
theorem zDe (p : Nat) (At : Option Addr) (ct : Nat) (ns : List S66) (root : Int) (ol : List Int) (q : Int) (h0 : 0 ≤ q) (h1 : q < ns.length) (b1 b2 : Nat) (r : Bool) (w : World) (hS : Sc p At ct ns root ol w)
  (hF : ∀ w',Below w.heap.size w w' → Calls Tryz.prog 69 #[.int .i64 (kindF ns ol q (nmOf ns q)),.pointer (some ⟨b1,0,none⟩),.pointer (some ⟨b2,0,none⟩)] w' fun e w'' => e = .returned (.bool r) ∧ Below w'.heap.size w' w'') :
  Calls Tryz.prog 67 #[.pointer (some ⟨p,0,none⟩),.int .i64 q,.func (.func 69) #[] #[.pointer (some ⟨b1,0,none⟩),.pointer (some ⟨b2,0,none⟩)]] w fun e w' => e = .returned (.int .i64 (namedF ns ol q r)) ∧ Below w.heap.size w w':=by
 have HF:=Lib.hid hF
 have HM:=Lib.hid (fun (w' : World) (hb : Below w.heap.size w w') => zDm p At ct ns root ol q h0 h1 w' (hS.below hb))
 have HK:=Lib.hid (fun (w' : World) (hb : Below w.heap.size w w') => kind_at p At ct ns root ol q h0 h1 w' (hS.below hb))
 unfold namedF
 obtain ⟨m,hm⟩ : ∃ m,m = meansF ns ol q (nmOf ns q):=⟨_,rfl⟩
 obtain ⟨k,hk⟩ : ∃ k,k = kindF ns ol q (nmOf ns q):=⟨_,rfl⟩
 rw [← hm] at HM ⊢
 rw [← hk] at HK HF
 obtain ⟨R,hR⟩ : ∃ R : Int,R = if m = -1 then 3 else if r = true then 0 else 5:=⟨_,rfl⟩
 rw [← hR]
 have HR:=Lib.hid hR
 obtain ⟨bo,g,r0,l,Lb,h⟩:=hS
 have c0:=bc_ h.hp 0
 obtain ⟨ad,A4,c4,eA,z0,z1,z2,z3,z4,l4,g4⟩:=at_T66 h.hC q h0 h1
 have e0:=eq_true h0
 have e1:=eq_true h1
 obtain ⟨x,hx⟩ : ∃ x,x = rd_T66 ns q:=⟨_,rfl⟩
 rw [← hx] at z0 z1 z2 z3 z4 HM HK
 obtain ⟨kd,n,at_,tx,kl⟩:=x
 dsimp only at z0 z1 z2 z3 z4 HM HK
 cases eA
 clear h hm hk hx hF hR l4 g4
 go_enter Tryz.func67,Tryz.ntmps67
 go_wp2_with fail
 have hb0 : Below w.heap.size w (w.alloc (.cells #[.int .i64 kd,.int .i64 n,.int .i64 at_,.string tx,.slice A4 kl.length c4] 66)):=zAa (Below.refl _ _) _
 have x0:=heap_alloc_new w (.cells #[.int .i64 kd,.int .i64 n,.int .i64 at_,.string tx,.slice A4 kl.length c4] 66)
 obtain ⟨W0,hW0⟩ : ∃ W0,W0 = w.alloc (.cells #[.int .i64 kd,.int .i64 n,.int .i64 at_,.string tx,.slice A4 kl.length c4] 66):=⟨_,rfl⟩
 rw [← hW0] at hb0 x0 ⊢
 have HB0:=Lib.hid hb0
 have X0:=Lib.hid x0
 clear hW0 hb0 x0 z0 z1 z2 z3 z4 c0
 refine (HM.out W0 HB0.out).mono ?_
 rintro e_ W1 ⟨rfl,hb_⟩
 have HB1:=Lib.hid (zAd HB0.out hb_)
 have c3:=bc_ (zAe X0.out hb_) 3
 clear hb_
 by_cases hm : m = -1
 ·subst hm
  have hR:=HR.out
  rw [if_pos rfl] at hR
  subst hR
  go_wp2_with fail
  go_ret
  exact ⟨rfl,HB1.out⟩
 ·have hR:=HR.out
  rw [if_neg hm] at hR
  have HR':=Lib.hid hR
  clear hR HR
  go_wp2_with fail
  refine (HK.out W1 HB1.out).mono ?_
  rintro e_ W2 ⟨rfl,hb_⟩
  have HB2:=Lib.hid (zAd HB1.out hb_)
  clear hb_ c3
  go_wp2_with fail
  refine (HF.out W2 HB2.out).mono ?_
  rintro e_ W3 ⟨rfl,hb_⟩
  have HB3:=Lib.hid (zAd HB2.out hb_)
  clear hb_
  go_wp2_with fail
  refine (told_is r W3).mono ?_
  rintro e_ w_ ⟨he_,rfl⟩
  rw [← HR'.out] at he_
  subst he_
  go_wp2_with fail
  go_ret
  exact ⟨rfl,HB3.out⟩
theorem zCr (kind x : Int) (b : Nat) (w : World) (h : w.cell? ⟨b,0,none⟩ = some (.int .i64 kind)) :
  Calls Tryz.prog 65 #[.int .i64 x,.pointer (some ⟨b,0,none⟩)] w fun e w' => e = .returned (.bool (x == kind)) ∧ Below w.heap.size w w':=by
 go_enter Tryz.func65,Tryz.ntmps65
 go_wp2_with fail
 go_ret
 exact ⟨rfl,Below.refl _ _⟩
theorem tis_new (kind : Int) (w : World) : Calls Tryz.prog 64 #[.int .i64 kind] w fun e w' => e = .returned (.func (.func 65) #[] #[.pointer (some ⟨w.heap.size,0,none⟩)]) ∧ w' = w.alloc (.cells #[.int .i64 kind] 3):=by
 have hmf:=@hmf_ Tryz.prog
 go_enter Tryz.func64,Tryz.ntmps64
 go_wp2_with fail
 go_ret
 exact ⟨rfl,rfl⟩
theorem tany_calls (x : Int) (w : World) : Calls Tryz.prog 68 #[.int .i64 x] w fun e w' => e = .returned (.bool true) ∧ Below w.heap.size w w':=by
 go_enter Tryz.func68,Tryz.ntmps68
 go_wp2_with fail
 go_ret
 exact ⟨rfl,Below.refl _ _⟩
theorem zCI (b1 b2 p : Nat) (At : Option Addr) (ct : Nat) (ns : List S66) (root : Int) (ol : List Int) (x : Int) (A : Option Addr) (c : Nat) (kl : List Int) (hk : ∀ k ∈ kl,0 ≤ k ∧ k < ns.length) (hl : kl.length ≤ 4000) (w : World) (hS : Sc p At ct ns root ol w)
  (hC : Kd.C (Kd.int .i64) w A kl.length kl) (hc : kl.length ≤ c) (c1 : w.cell? ⟨b1,0,none⟩ = some (.pointer (some ⟨p,0,none⟩))) (c2 : w.cell? ⟨b2,4,none⟩ = some (.slice A kl.length c)) :
  Calls Tryz.prog 69 #[.int .i64 x,.pointer (some ⟨b1,0,none⟩),.pointer (some ⟨b2,0,none⟩)] w fun e w' => e = .returned (.bool (x == 3 && allF ns ol 1 kl)) ∧ Below w.heap.size w w':=by
 have HA:=Lib.hid (fun (w' : World) (hb : Below w.heap.size w w') => all_is p At ct ns root ol 1 A c kl hk hl w' (hS.below hb) (Kd.C_below hC hb) hc)
 obtain ⟨r,hr⟩ : ∃ r,r = allF ns ol 1 kl:=⟨_,rfl⟩
 rw [← hr] at HA ⊢
 clear hS hk hC hr
 by_cases hx : x = 3
 ·subst hx
  go_enter Tryz.func69,Tryz.ntmps69
  go_wp2_with fail
  refine (HA.out _ (Below.refl _ _)).mono ?_
  rintro e_ W1 ⟨rfl,hb_⟩
  have HB1:=Lib.hid hb_
  clear hb_
  go_wp2_with fail
  go_ret
  exact ⟨rfl,HB1.out⟩
 ·have hx1 : (x == 3) = false:=by simpa using hx
  rw [hx1,Bool.false_and]
  go_enter Tryz.func69,Tryz.ntmps69
  go_wp2_with fail
  go_ret
  exact ⟨rfl,Below.refl _ _⟩
def boolB (s : Nm) : Bool:=s == [33] || s == [38,38] || s == [124,124]
def eqB (s : Nm) : Bool:=s == [61,61] || s == [33,61]
def operandsF (ns : List S66) (ol : List Int) (s : Nm) (kl : List Int) : Bool :=
 if boolB s = true then allF ns ol 2 kl else if eqB s = true then allF ns ol 1 kl || allF ns ol 2 kl else allF ns ol 1 kl
theorem operands_is (p : Nat) (At : Option Addr) (ct : Nat) (ns : List S66) (root : Int) (ol : List Int) (k n at_ : Int) (tx : ByteArray) (A : Option Addr) (c : Nat) (kl : List Int) (hk : ∀ k ∈ kl,0 ≤ k ∧ k < ns.length) (hl : kl.length ≤ 4000) (w : World) (hS : Sc p At ct ns root ol w)
  (hC : Kd.C (Kd.int .i64) w A kl.length kl) (hc : kl.length ≤ c) :
  Calls Tryz.prog 74 #[.pointer (some ⟨p,0,none⟩),.agg #[.int .i64 k,.int .i64 n,.int .i64 at_,.string tx,.slice A kl.length c]] w fun e w' => e = .returned (.bool (operandsF ns ol tx.data.toList kl)) ∧ Below w.heap.size w w':=by
 have HA:=Lib.hid (fun (kind : Int) (w' : World) (hb : Below w.heap.size w w') => all_is p At ct ns root ol kind A c kl hk hl w' (hS.below hb) (Kd.C_below hC hb) hc)
 have HB:=Lib.hid (HA.out 2)
 replace HA:=Lib.hid (HA.out 1)
 unfold operandsF
 obtain ⟨r1,hr1⟩ : ∃ r,r = allF ns ol 1 kl:=⟨_,rfl⟩
 obtain ⟨r2,hr2⟩ : ∃ r,r = allF ns ol 2 kl:=⟨_,rfl⟩
 rw [← hr1] at HA ⊢
 rw [← hr2] at HB ⊢
 clear hS hk hC hr1 hr2
 rw [← zAI]
 unfold boolB eqB
 have HBL:=Lib.hid (fun o => zAa (Below.refl w.heap.size w) o)
 cases t1 : tx.toList == [33] with
 | true =>
  go_enter Tryz.func74,Tryz.ntmps74
  go_wp2_with fail
  refine (HB.out _ (HBL.out _)).mono ?_
  rintro e_ W1 ⟨rfl,hb_⟩
  have HB1:=Lib.hid (zAd (HBL.out _) hb_)
  clear hb_
  go_wp2_with fail
  go_ret
  exact ⟨rfl,HB1.out⟩
 | false =>
 cases t2 : tx.toList == [38,38] with
 | true =>
  go_enter Tryz.func74,Tryz.ntmps74
  go_wp2_with fail
  refine (HB.out _ (HBL.out _)).mono ?_
  rintro e_ W1 ⟨rfl,hb_⟩
  have HB1:=Lib.hid (zAd (HBL.out _) hb_)
  clear hb_
  go_wp2_with fail
  go_ret
  exact ⟨rfl,HB1.out⟩
 | false =>
 cases t3 : tx.toList == [124,124] with
 | true =>
  go_enter Tryz.func74,Tryz.ntmps74
  go_wp2_with fail
  refine (HB.out _ (HBL.out _)).mono ?_
  rintro e_ W1 ⟨rfl,hb_⟩
  have HB1:=Lib.hid (zAd (HBL.out _) hb_)
  clear hb_
  go_wp2_with fail
  go_ret
  exact ⟨rfl,HB1.out⟩
 | false =>
 have x0:=heap_alloc_new w (.cells #[.int .i64 k,.int .i64 n,.int .i64 at_,.string tx,.slice A kl.length c] 66)
 have X0:=Lib.hid x0
 clear x0
 cases t4 : (tx.toList == [61,61] || tx.toList == [33,61]) with
 | true =>
  have goal_ : Calls Tryz.prog 74 #[.pointer (some ⟨p,0,none⟩),.agg #[.int .i64 k,.int .i64 n,.int .i64 at_,.string tx,.slice A kl.length c]] w fun e w' => e = .returned (.bool (r1 || r2)) ∧ Below w.heap.size w w':=by
   cases t5 : tx.toList == [61,61] with
   | true =>
    go_enter Tryz.func74,Tryz.ntmps74
    go_wp2_with fail
    refine (HA.out _ (HBL.out _)).mono ?_
    rintro e_ W1 ⟨rfl,hb_⟩
    have HB1:=Lib.hid (zAd (HBL.out _) hb_)
    have c4:=bc_ (zAe X0.out hb_) 4
    clear hb_
    cases r1
    ·go_wp2_with fail
     refine (HB.out _ HB1.out).mono ?_
     rintro e_ W2 ⟨rfl,hb_⟩
     have HB2:=Lib.hid (zAd HB1.out hb_)
     clear hb_
     go_wp2_with fail
     go_ret
     exact ⟨rfl,HB2.out⟩
    ·go_wp2_with fail
     go_ret
     exact ⟨rfl,HB1.out⟩
   | false =>
    have t6 : (tx.toList == [33,61]) = true:=by rw [t5] at t4; exact t4
    clear t4
    go_enter Tryz.func74,Tryz.ntmps74
    go_wp2_with fail
    refine (HA.out _ (HBL.out _)).mono ?_
    rintro e_ W1 ⟨rfl,hb_⟩
    have HB1:=Lib.hid (zAd (HBL.out _) hb_)
    have c4:=bc_ (zAe X0.out hb_) 4
    clear hb_
    cases r1
    ·go_wp2_with fail
     refine (HB.out _ HB1.out).mono ?_
     rintro e_ W2 ⟨rfl,hb_⟩
     have HB2:=Lib.hid (zAd HB1.out hb_)
     clear hb_
     go_wp2_with fail
     go_ret
     exact ⟨rfl,HB2.out⟩
    ·go_wp2_with fail
     go_ret
     exact ⟨rfl,HB1.out⟩
  exact goal_
 | false =>
  have t5 : (tx.toList == [61,61]) = false:=by cases h : tx.toList == [61,61] with | true => rw [h] at t4; cases t4 | false => rfl
  have t6 : (tx.toList == [33,61]) = false:=by rw [t5] at t4; exact t4
  clear t4
  go_enter Tryz.func74,Tryz.ntmps74
  go_wp2_with fail
  refine (HA.out _ (HBL.out _)).mono ?_
  rintro e_ W1 ⟨rfl,hb_⟩
  have HB1:=Lib.hid (zAd (HBL.out _) hb_)
  clear hb_
  go_wp2_with fail
  go_ret
  exact ⟨rfl,HB1.out⟩
theorem SMap.drewN {w : World} {b n : Nat} {f : Nm → Option Int} (h : SMap w b n f) (m : Nat) : SMap (w.drewN m) b n f:=h.of_heap rfl
theorem LMap.drewN {w : World} {b n : Nat} {f : Int → Option Nat} (h : LMap w b n f) (m : Nat) : LMap (w.drewN m) b n f:=h.of_heap rfl
theorem twice_45 (p : Nat) (At : Option Addr) (ct : Nat) (ns : List S66) (root : Int) (ol : List Int) (q : Int) (h0 : 0 ≤ q) (h1 : q < ns.length) (k n at_ : Int) (tx : ByteArray) (A : Option Addr) (c : Nat) (kl : List Int) (w : World) (hS : Sc p At ct ns root ol w)
  (hs : tx.size ≤ 140737488351232) (hk : k = 4 ∨ k = 5) (hoq : rd ol q ≠ -1) :
  Calls Tryz.prog 66 #[.pointer (some ⟨p,0,none⟩),.int .i64 q,.agg #[.int .i64 k,.int .i64 n,.int .i64 at_,.string tx,.slice A kl.length c]] w fun e w' => e = .returned (.bool (decide ((loF ns ol (rd ol q) ns.length tx.data.toList).getD 0 ≠ q))) ∧ Below w.heap.size w w':=by
 have hx:=heap_alloc_new w (.cells #[.int .i64 k,.int .i64 n,.int .i64 at_,.string tx,.slice A kl.length c] 66)
 have hb0 : Below w.heap.size w (w.alloc (.cells #[.int .i64 k,.int .i64 n,.int .i64 at_,.string tx,.slice A kl.length c] 66)):=zAa (Below.refl _ _) _
 obtain ⟨W,hW⟩ : ∃ W,W = w.alloc (.cells #[.int .i64 k,.int .i64 n,.int .i64 at_,.string tx,.slice A kl.length c] 66):=⟨_,rfl⟩
 rw [← hW] at hx hb0
 obtain ⟨bo,g,r,l,Lb,h⟩:=hS.below hb0
 have how:=(h.hown.2 q h0 h1).resolve_left hoq
 obtain ⟨b,hb⟩:=Option.isSome_iff_exists.1 (h.hLd _ how.1 how.2.1 how.2.2)
 have hn:=h.hn
 have lk1:=(h.hL.drewN 1).look (rd ol q) (wf64 (by omega) (by omega))
 have lk2:=((h.hLs _ b hb).drewN 1).look1 tx hs
 rw [hb] at lk1
 have c2:=bc_ h.hp 2
 have c5:=bc_ h.hp 5
 have co : W.cell? ⟨bo,q.toNat,none⟩ = some (.int .i64 (rd ol q)):=(zAh h.hO _).trans (zAO ol q h0 (by have:=h.hown.1; omega))
 have d0:=bc_ hx 0
 have d3:=bc_ hx 3
 obtain ⟨v,hv⟩ : ∃ v,v = (loF ns ol (rd ol q) ns.length tx.data.toList).getD 0:=⟨_,rfl⟩
 rw [← hv] at lk2 ⊢
 obtain ⟨o,ho⟩ : ∃ o,o = rd ol q:=⟨_,rfl⟩
 rw [← ho] at co lk1
 have e0:=eq_true h0
 have e1:=eq_true h1
 have HB0:=Lib.hid hb0
 have HW:=Lib.hid hW
 obtain ⟨r,hr⟩ : ∃ r,r = decide (v ≠ q):=⟨_,rfl⟩
 have hvq : (v != q) = r:=by rw [hr]; by_cases h : v = q <;> simp [h]
 rw [← hr]
 clear h hv hb how hx hb0 hW hr hS ho hoq
 rcases hk with rfl | rfl
 ·go_enter Tryz.func66,Tryz.ntmps66
  go_wp2_with fail
  rw [← HW.out]
  refine start_ (n:=18) (S:=fun w' => w'.cell? ⟨p,2,none⟩ = some (.slice (some ⟨bo,0,none⟩) ns.length ns.length) ∧ w'.cell? ⟨p,5,none⟩ = some (.map (some l)) ∧ w'.cell? ⟨bo,q.toNat,none⟩ = some (.int .i64 o) ∧ w'.cell? ⟨w.heap.size,3,none⟩ = some (.string tx) ∧ (Instr.lookup 119 (.map (some l)) (.int .i64 o) false).run Tryz.prog w' = .ok (.map (some b)) w' ∧ (Instr.lookup 118 (.map (some b)) (.string tx) false).run Tryz.prog w' = .ok (.int .i64 v) w') (ds:=[]) #[false,false,false,false,false,false,false,false,false,false,false,false,false,false,false,false,false,false] (by kernel_rfl) rfl rfl ⟨zAg c2,zAg c5,zAg co,zAg d3,lk1,lk2⟩ (fun hHeld => ?_)
  refine pu_ 0 17 ?_
  refine pu_ 1 18 ?_
  refine pu_ 2 19 ?_
  refine pu_ 4 21 ?_
  refine pu_ 5 22 ?_
  refine pu_ 6 23 ?_
  refine pu_ 8 25 ?_
  refine pu_ 12 29 ?_
  refine pu_ 15 32 ?_
  refine ta_ 3 20 hHeld ?_
  refine ta_ 7 24 hHeld ?_
  refine pu_ 9 26 ?_
  refine ta_ 10 27 hHeld ?_
  refine ta_ 11 28 hHeld ?_
  refine ta_ 13 30 hHeld ?_
  refine ta_ 14 31 hHeld ?_
  refine pu_ 16 33 ?_
  refine pu_ 17 6 ?_
  refine done_ (by kernel_rfl) ?_
  go_wp2_with fail
  go_ret
  exact ⟨rfl,zAk HB0.out⟩
 ·go_enter Tryz.func66,Tryz.ntmps66
  go_wp2_with fail
  rw [← HW.out]
  refine start_ (n:=18) (S:=fun w' => w'.cell? ⟨p,2,none⟩ = some (.slice (some ⟨bo,0,none⟩) ns.length ns.length) ∧ w'.cell? ⟨p,5,none⟩ = some (.map (some l)) ∧ w'.cell? ⟨bo,q.toNat,none⟩ = some (.int .i64 o) ∧ w'.cell? ⟨w.heap.size,3,none⟩ = some (.string tx) ∧ (Instr.lookup 119 (.map (some l)) (.int .i64 o) false).run Tryz.prog w' = .ok (.map (some b)) w' ∧ (Instr.lookup 118 (.map (some b)) (.string tx) false).run Tryz.prog w' = .ok (.int .i64 v) w') (ds:=[]) #[false,false,false,false,false,false,false,false,false,false,false,false,false,false,false,false,false,false] (by kernel_rfl) rfl rfl ⟨zAg c2,zAg c5,zAg co,zAg d3,lk1,lk2⟩ (fun hHeld => ?_)
  refine pu_ 0 17 ?_
  refine pu_ 1 18 ?_
  refine pu_ 2 19 ?_
  refine pu_ 4 21 ?_
  refine pu_ 5 22 ?_
  refine pu_ 6 23 ?_
  refine pu_ 8 25 ?_
  refine pu_ 12 29 ?_
  refine pu_ 15 32 ?_
  refine ta_ 3 20 hHeld ?_
  refine ta_ 7 24 hHeld ?_
  refine pu_ 9 26 ?_
  refine ta_ 10 27 hHeld ?_
  refine ta_ 11 28 hHeld ?_
  refine ta_ 13 30 hHeld ?_
  refine ta_ 14 31 hHeld ?_
  refine pu_ 16 33 ?_
  refine pu_ 17 6 ?_
  refine done_ (by kernel_rfl) ?_
  go_wp2_with fail
  go_ret
  exact ⟨rfl,zAk HB0.out⟩
theorem twice_2 (p : Nat) (At : Option Addr) (ct : Nat) (ns : List S66) (root : Int) (ol : List Int) (q : Int) (h0 : 0 ≤ q) (h1 : q < ns.length) (n at_ : Int) (tx : ByteArray) (A : Option Addr) (c : Nat) (kl : List Int) (w : World) (hS : Sc p At ct ns root ol w)
  (hs : tx.size ≤ 140737488351232) :
  Calls Tryz.prog 66 #[.pointer (some ⟨p,0,none⟩),.int .i64 q,.agg #[.int .i64 2,.int .i64 n,.int .i64 at_,.string tx,.slice A kl.length c]] w fun e w' => e = .returned (.bool (decide ((glF ns ns.length tx.data.toList).getD 0 ≠ q))) ∧ Below w.heap.size w w':=by
 have hx:=heap_alloc_new w (.cells #[.int .i64 2,.int .i64 n,.int .i64 at_,.string tx,.slice A kl.length c] 66)
 have hb0 : Below w.heap.size w (w.alloc (.cells #[.int .i64 2,.int .i64 n,.int .i64 at_,.string tx,.slice A kl.length c] 66)):=zAa (Below.refl _ _) _
 obtain ⟨W,hW⟩ : ∃ W,W = w.alloc (.cells #[.int .i64 2,.int .i64 n,.int .i64 at_,.string tx,.slice A kl.length c] 66):=⟨_,rfl⟩
 rw [← hW] at hx hb0
 obtain ⟨bo,g,r,l,Lb,h⟩:=hS.below hb0
 have lk2:=(h.hG.drewN 1).look1 tx hs
 have c3:=bc_ h.hp 3
 have d0:=bc_ hx 0
 have d3:=bc_ hx 3
 obtain ⟨v,hv⟩ : ∃ v,v = (glF ns ns.length tx.data.toList).getD 0:=⟨_,rfl⟩
 rw [← hv] at lk2 ⊢
 have e0:=eq_true h0
 have e1:=eq_true h1
 have HB0:=Lib.hid hb0
 have HW:=Lib.hid hW
 obtain ⟨r,hr⟩ : ∃ r,r = decide (v ≠ q):=⟨_,rfl⟩
 have hvq : (v != q) = r:=by rw [hr]; by_cases h : v = q <;> simp [h]
 rw [← hr]
 clear h hv hx hb0 hW hr hS
 go_enter Tryz.func66,Tryz.ntmps66
 go_wp2_with fail
 rw [← HW.out]
 refine start_ (n:=10) (S:=fun w' => w'.cell? ⟨p,3,none⟩ = some (.map (some g)) ∧ w'.cell? ⟨w.heap.size,3,none⟩ = some (.string tx) ∧ (Instr.lookup 118 (.map (some g)) (.string tx) false).run Tryz.prog w' = .ok (.int .i64 v) w') (ds:=[]) #[false,false,false,false,false,false,false,false,false,false] (by kernel_rfl) rfl rfl ⟨zAg c3,zAg d3,lk2⟩ (fun hHeld => ?_)
 refine pu_ 0 37 ?_
 refine pu_ 1 38 ?_
 refine pu_ 2 39 ?_
 refine pu_ 4 41 ?_
 refine pu_ 7 44 ?_
 refine ta_ 3 40 hHeld ?_
 refine ta_ 5 42 hHeld ?_
 refine ta_ 6 43 hHeld ?_
 refine pu_ 8 45 ?_
 refine pu_ 9 6 ?_
 refine done_ (by kernel_rfl) ?_
 go_wp2_with fail
 go_ret
 exact ⟨rfl,zAk HB0.out⟩
theorem twice_3 (p : Nat) (At : Option Addr) (ct : Nat) (ns : List S66) (root : Int) (ol : List Int) (q : Int) (h0 : 0 ≤ q) (h1 : q < ns.length) (n at_ : Int) (tx : ByteArray) (A : Option Addr) (c : Nat) (kl : List Int) (w : World) (hS : Sc p At ct ns root ol w)
  (hs : tx.size ≤ 140737488351232) :
  Calls Tryz.prog 66 #[.pointer (some ⟨p,0,none⟩),.int .i64 q,.agg #[.int .i64 3,.int .i64 n,.int .i64 at_,.string tx,.slice A kl.length c]] w fun e w' => e = .returned (.bool ((glF ns ns.length tx.data.toList).isSome || decide ((prF ns ns.length tx.data.toList).getD 0 ≠ q))) ∧ Below w.heap.size w w':=by
 have hx:=heap_alloc_new w (.cells #[.int .i64 3,.int .i64 n,.int .i64 at_,.string tx,.slice A kl.length c] 66)
 have hb0 : Below w.heap.size w (w.alloc (.cells #[.int .i64 3,.int .i64 n,.int .i64 at_,.string tx,.slice A kl.length c] 66)):=zAa (Below.refl _ _) _
 obtain ⟨W,hW⟩ : ∃ W,W = w.alloc (.cells #[.int .i64 3,.int .i64 n,.int .i64 at_,.string tx,.slice A kl.length c] 66):=⟨_,rfl⟩
 rw [← hW] at hx hb0
 obtain ⟨bo,g,r0,l,Lb,h⟩:=hS.below hb0
 have lk1:=(h.hG.drewN 1).look2 tx hs
 have lk2:=(h.hR.drewN 2).look1 tx hs
 have c3:=bc_ h.hp 3
 have c4:=bc_ h.hp 4
 have d0:=bc_ hx 0
 have d3:=bc_ hx 3
 obtain ⟨v,hv⟩ : ∃ v,v = (prF ns ns.length tx.data.toList).getD 0:=⟨_,rfl⟩
 rw [← hv] at lk2 ⊢
 obtain ⟨go,hgo⟩ : ∃ go,go = glF ns ns.length tx.data.toList:=⟨_,rfl⟩
 rw [← hgo] at lk1 ⊢
 have e0:=eq_true h0
 have e1:=eq_true h1
 have HB0:=Lib.hid hb0
 have HW:=Lib.hid hW
 obtain ⟨r,hr⟩ : ∃ r,r = decide (v ≠ q):=⟨_,rfl⟩
 have hvq : (v != q) = r:=by rw [hr]; by_cases h : v = q <;> simp [h]
 rw [← hr]
 clear h hv hx hb0 hW hr hS hgo
 cases go with
 | none =>
  go_enter Tryz.func66,Tryz.ntmps66
  go_wp2_with fail
  rw [← HW.out]
  refine start_ (n:=12) (S:=fun w' => w'.cell? ⟨p,3,none⟩ = some (.map (some g)) ∧ w'.cell? ⟨w.heap.size,3,none⟩ = some (.string tx) ∧ (Instr.lookup 118 (.map (some g)) (.string tx) true).run Tryz.prog w' = .ok (.tuple #[.int .i64 0,.bool false]) w') (ds:=[]) #[false,false,false,false,false,false,false,false,false,false,false,false] (by kernel_rfl) rfl rfl ⟨zAg c3,zAg d3,lk1⟩ (fun hHeld => ?_)
  refine pu_ 0 47 ?_
  refine pu_ 1 48 ?_
  refine pu_ 2 49 ?_
  refine pu_ 4 51 ?_
  refine ta_ 3 50 hHeld ?_
  refine ta_ 5 52 hHeld ?_
  refine ta_ 6 53 hHeld ?_
  refine pu_ 7 46 ?_
  refine pu_ 8 54 ?_
  refine pu_ 9 55 ?_
  refine pu_ 10 7 ?_
  refine pu_ 11 8 ?_
  refine done_ (by kernel_rfl) ?_
  go_wp2_with fail
  refine start_ (n:=13) (S:=fun w' => w'.cell? ⟨p,4,none⟩ = some (.map (some r0)) ∧ w'.cell? ⟨w.heap.size,3,none⟩ = some (.string tx) ∧ (Instr.lookup 118 (.map (some r0)) (.string tx) false).run Tryz.prog w' = .ok (.int .i64 v) w') (ds:=[]) #[false,false,false,false,false,false,false,false,false,false,false,false,false] (by kernel_rfl) rfl rfl ⟨zAg (zAg c4),zAg (zAg d3),lk2⟩ (fun hHeld => ?_)
  refine pu_ 0 56 ?_
  refine pu_ 1 57 ?_
  refine pu_ 2 58 ?_
  refine pu_ 3 59 ?_
  refine pu_ 4 60 ?_
  refine pu_ 6 62 ?_
  refine pu_ 9 65 ?_
  refine ta_ 5 61 hHeld ?_
  refine ta_ 7 63 hHeld ?_
  refine ta_ 8 64 hHeld ?_
  refine pu_ 10 66 ?_
  refine pu_ 11 67 ?_
  refine pu_ 12 6 ?_
  refine done_ (by kernel_rfl) ?_
  go_wp2_with fail
  go_ret
  exact ⟨rfl,zAk (zAk HB0.out)⟩
 | some d =>
  go_enter Tryz.func66,Tryz.ntmps66
  go_wp2_with fail
  rw [← HW.out]
  refine start_ (n:=12) (S:=fun w' => w'.cell? ⟨p,3,none⟩ = some (.map (some g)) ∧ w'.cell? ⟨w.heap.size,3,none⟩ = some (.string tx) ∧ (Instr.lookup 118 (.map (some g)) (.string tx) true).run Tryz.prog w' = .ok (.tuple #[.int .i64 d,.bool true]) w') (ds:=[]) #[false,false,false,false,false,false,false,false,false,false,false,false] (by kernel_rfl) rfl rfl ⟨zAg c3,zAg d3,lk1⟩ (fun hHeld => ?_)
  refine pu_ 0 47 ?_
  refine pu_ 1 48 ?_
  refine pu_ 2 49 ?_
  refine pu_ 4 51 ?_
  refine ta_ 3 50 hHeld ?_
  refine ta_ 5 52 hHeld ?_
  refine ta_ 6 53 hHeld ?_
  refine pu_ 7 46 ?_
  refine pu_ 8 54 ?_
  refine pu_ 9 55 ?_
  refine pu_ 10 7 ?_
  refine pu_ 11 8 ?_
  refine done_ (by kernel_rfl) ?_
  go_wp2_with fail
  refine start_ (n:=13) (S:=fun w' => w'.cell? ⟨p,4,none⟩ = some (.map (some r0)) ∧ w'.cell? ⟨w.heap.size,3,none⟩ = some (.string tx) ∧ (Instr.lookup 118 (.map (some r0)) (.string tx) false).run Tryz.prog w' = .ok (.int .i64 v) w') (ds:=[]) #[false,false,false,false,false,false,false,false,false,false,false,false,false] (by kernel_rfl) rfl rfl ⟨zAg (zAg c4),zAg (zAg d3),lk2⟩ (fun hHeld => ?_)
  refine pu_ 0 56 ?_
  refine pu_ 1 57 ?_
  refine pn_ 2 58 ?_
  refine pn_ 3 59 ?_
  refine pn_ 4 60 ?_
  refine pn_ 5 61 ?_
  refine pn_ 6 62 ?_
  refine pn_ 7 63 ?_
  refine pn_ 8 64 ?_
  refine pn_ 9 65 ?_
  refine pn_ 10 66 ?_
  refine pu_ 11 67 ?_
  refine pu_ 12 6 ?_
  refine done_ (by kernel_rfl) ?_
  go_wp2_with fail
  go_ret
  exact ⟨rfl,zAk (zAk HB0.out)⟩
end Go.Proofs.YtkhlfdcjgooogaaGreat.P
