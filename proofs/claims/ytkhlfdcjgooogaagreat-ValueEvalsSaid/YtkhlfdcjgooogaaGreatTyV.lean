import Derived.Test.YtkhlfdcjgooogaaGreatWMore
import Derived.Test.YtkhlfdcjgooogaaGreatTyT
import Derived.Test.YtkhlfdcjgooogaaGreatReM
import Derived.Test.YtkhlfdcjgooogaaGreatPf138
import Derived.Test.YtkhlfdcjgooogaaGreatReP
set_option maxRecDepth 100000
set_option maxHeartbeats 16000000
set_option linter.unusedVariables false
set_option linter.unusedSimpArgs false
set_option linter.unusedSectionVars false
namespace Go.Proofs.YtkhlfdcjgooogaaGreat.P
open Go.RowKit Go.Proofs.YtkhlfdcjgooogaaGreatW.PrintWords Go.Proofs.YtkhlfdcjgooogaaGreatW.PrintLast Go.Proofs.YtkhlfdcjgooogaaGreatW.PrintMore
theorem right_b (At : Option Addr) (ct : Nat) (ns : List S66) (root : Int) (b : Bool) (hb : rtB ns root b) (w : World) (hC : Kd.C k66 w At ns.length ns) (hct : ns.length ≤ ct) (hE : Env w) :
  Calls Tryz.prog 32 #[.agg #[.slice At ns.length ct,.int .i64 root]] w fun e w' => e = .returned (.bool b) ∧ Below w.heap.size w w':=by
 rcases hb with ⟨h1,rfl⟩ | ⟨hF,hn,hr,hs,kf,d,hd,rfl⟩
 ·exact right_no At ct ns root w hC hct h1
 ·exact right_yes At ct ns root w hC hct hE hF (by omega) (by omega) kf d hs hd
theorem zDg (At : Option Addr) (ct : Nat) (ns : List S66) (root : Int) (ol : List Int) (hR : Rt ns root ol) (w : World) (hC : Kd.C k66 w At ns.length ns) (hct : ns.length ≤ ct) :
  Calls Tryz.prog 33 #[.agg #[.slice At ns.length ct,.int .i64 root]] w fun e w' => ∃ p,e = .returned (.pointer (some ⟨p,0,none⟩)) ∧ Sc p At ct ns root ol w' ∧ Below w.heap.size w w':=by
 obtain ⟨kf,ps,h1,h2,h3⟩:=hR.par
 exact learn_is At ct ns root w hC hct hR.n0 hR.fit.1 hR.sz hR.rt kf ps h1 h2.len (fun i h0 h1 => h2.lt i h0 (by have:=hR.rt; omega)) ol h3 hR.own (fun i h0 h1 hk => hR.some_ i h0 h1 (by omega) (by omega))
def badF (ns : List S66) (ol : List Int) : Nat → Int
 | 0 => 0
 | i + 1 => if badF ns ol i = 0 then checkF ns ol (i : Int) else badF ns ol i
def mainT : ByteArray:=⟨#[109,97,105,110]⟩
def mainF (ns : List S66) : Int:=if procF ns mainT.data.toList = -1 ∨ nOf ns (procF ns mainT.data.toList) ≠ 0 ∨ paramsF ns (procF ns mainT.data.toList) ≠ [] then 11 else 0
def chkF (ns : List S66) (ol : List Int) : Int:=if badF ns ol ns.length = 0 then mainF ns else badF ns ol ns.length
theorem badF_stay (ns : List S66) (ol : List Int) (i : Nat) : ∀ d,badF ns ol i ≠ 0 → badF ns ol (i + d) = badF ns ol i
 | 0,h => rfl
 | d + 1,h => by
  have:=badF_stay ns ol i d h
  rw [← Nat.add_assoc,badF,this,if_neg h]
theorem Check_no (At : Option Addr) (ct : Nat) (ns : List S66) (root : Int) (hb : rtB ns root false) (w : World) (hC : Kd.C k66 w At ns.length ns) (hct : ns.length ≤ ct) (hE : Env w) :
  Calls Tryz.prog 20 #[.agg #[.slice At ns.length ct,.int .i64 root]] w fun e w' => e = .returned (.tuple #[.int .i64 0,.int .i64 1]) ∧ Below w.heap.size w w':=by
 have HB0:=Lib.hid (fun o => zAa (Below.refl w.heap.size w) o)
 have HX:=Lib.hid (fun o => right_b At ct ns root false hb (w.alloc o) (Kd.C_alloc hC o) hct (hE.below (zAa (Below.refl _ _) _) hE.six))
 clear hC hE hb
 go_enter Tryz.func20,Tryz.ntmps20
 go_wp2_with fail
 refine (HX.out _).mono ?_
 rintro e_ W1 ⟨rfl,hb_⟩
 have HB1:=Lib.hid (zAd (HB0.out _) hb_)
 clear hb_
 go_wp2_with fail
 go_ret2
 exact ⟨rfl,HB1.out⟩
theorem Check_yes (At : Option Addr) (ct : Nat) (ns : List S66) (root : Int) (ol : List Int) (hR : Rt ns root ol) (hb : rtB ns root true) (w : World) (hC : Kd.C k66 w At ns.length ns) (hct : ns.length ≤ ct) (hE : Env w) :
  Calls Tryz.prog 20 #[.agg #[.slice At ns.length ct,.int .i64 root]] w fun e w' => ∃ a : Int,e = .returned (.tuple #[.int .i64 a,.int .i64 (chkF ns ol)]) ∧ Below w.heap.size w w':=by
 have hb0 : Below w.heap.size w (w.alloc (.cells #[.slice At ns.length ct,.int .i64 root] 24)):=zAa (Below.refl _ _) _
 have x0:=blk_new w (.cells #[.slice At ns.length ct,.int .i64 root] 24)
 obtain ⟨W0,hW0⟩ : ∃ W0,W0 = w.alloc (.cells #[.slice At ns.length ct,.int .i64 root] 24):=⟨_,rfl⟩
 rw [← hW0] at hb0 x0
 have HB0:=Lib.hid hb0
 have X0:=Lib.hid x0
 have HW0:=Lib.hid hW0
 have HR:=Lib.hid hR
 have HC:=Lib.hid hC
 have HE:=Lib.hid hE
 have HRB:=Lib.hid hb
 have hn0:=hR.n0
 have hn:=hR.fit.1
 obtain ⟨R,hRR⟩ : ∃ R,R = chkF ns ol:=⟨_,rfl⟩
 rw [← hRR]
 have HRR:=Lib.hid hRR
 clear hW0 hb0 x0 hR hC hE hb hRR
 go_enter Tryz.func20,Tryz.ntmps20
 go_wp2_with fail
 rw [← HW0.out]
 refine (right_b At ct ns root true HRB.out W0 (Kd.C_below HC.out HB0.out) hct (HE.out.below HB0.out HE.out.six)).mono ?_
 rintro e_ W1 ⟨rfl,hb_⟩
 have HB1:=Lib.hid (zAd HB0.out hb_)
 have X1:=Lib.hid (zAe X0.out hb_)
 clear hb_ HB0 X0 HW0
 have c0:=bc_ X1.out 0
 have c1:=bc_ X1.out 1
 go_wp2_with fail
 refine (zDg At ct ns root ol HR.out W1 (Kd.C_below HC.out HB1.out) hct).mono ?_
 rintro e_ W2 ⟨p,rfl,hs_,hb_⟩
 have HB2:=Lib.hid (zAd HB1.out hb_)
 have X2:=Lib.hid (zAe X1.out hb_)
 have HS:=Lib.hid hs_
 clear hb_ hs_ HB1 X1 c0 c1
 have c0:=bc_ X2.out 0
 go_wp2_with fail
 clear c0
 go_loopg [16] (ns.length + 1) (fun kq v16 W => ∃ i : Nat,v16 = .int .i64 i ∧ i ≤ ns.length ∧ Hid (i + kq = ns.length + 1) ∧ Hid (badF ns ol i = 0) ∧ Hid (Sc p At ct ns root ol W) ∧ Hid (Below w.heap.size w W) ∧ Hid (W.heap[w.heap.size]? = some (.cells #[.slice At ns.length ct,.int .i64 root] 24 (0,0))))
 case atStart => exact ⟨0,rfl,Nat.zero_le _,Lib.hid (by omega),Lib.hid rfl,HS,HB2,X2⟩
 case round =>
  clear HS HB2 X2
  obtain ⟨i,rfl,hi,HN,HBD,HS,HB,HX⟩:=hrel
  by_cases hlt : i < ns.length
  ·have HCK:=Lib.hid (check_is p At ct ns root ol (i : Int) (by omega) (by omega) HR.out.kidsIn (HR.out.pre (i : Int) (by omega) (by omega)) wr HS.out)
   have HST : Hid (badF ns ol (i + 1) = checkF ns ol (i : Int)):=Lib.hid (by rw [badF,if_pos HBD.out])
   obtain ⟨ce,hce⟩ : ∃ ce,ce = checkF ns ol (i : Int):=⟨_,rfl⟩
   rw [← hce] at HCK HST
   clear hce
   by_cases he : ce = 0
   ·subst he
    go_wp2_with fail
    refine HCK.out.mono ?_
    rintro e_ W3 ⟨rfl,hb_⟩
    have HB3:=Lib.hid (zAd HB.out hb_)
    have HX3:=Lib.hid (zAe HX.out hb_)
    have HS3:=Lib.hid (HS.out.below hb_)
    clear hb_
    go_wp2_with fail
    go_roundg (gk - 1)
    case measure => have:=HN.out; omega
    case rel => exact ⟨i + 1,by norm_cast,hlt,Lib.hid (by have:=HN.out; omega),HST,HS3,HB3,HX3⟩
   ·have hR : R = ce:=by
     have h1:=badF_stay ns ol (i + 1) (ns.length - (i + 1)) (by rw [HST.out]; exact he)
     rw [show i + 1 + (ns.length - (i + 1)) = ns.length from by omega,HST.out] at h1
     rw [HRR.out,chkF,h1,if_neg he]
    have HR2:=Lib.hid hR
    clear hR
    go_wp2_with fail
    refine HCK.out.mono ?_
    rintro e_ W3 ⟨rfl,hb_⟩
    have HB3:=Lib.hid (zAd HB.out hb_)
    clear hb_
    go_wp2_with fail
    go_ret2
    exact ⟨_,by rw [HR2.out]; rfl,HB3.out⟩
  ·obtain rfl : i = ns.length:=by omega
   have hR : R = mainF ns:=by rw [HRR.out,chkF,if_pos HBD.out]
   unfold mainF at hR
   have HP:=Lib.hid (proc_is p At ct ns root ol mainT (by decide) wr HS.out)
   have HPR:=Lib.hid (zBd ns mainT.data.toList)
   obtain ⟨m,hm⟩ : ∃ m,m = procF ns mainT.data.toList:=⟨_,rfl⟩
   rw [← hm] at HP HPR hR
   have HR2:=Lib.hid hR
   clear hm hR
   go_wp2_with fail
   refine (HP.out).mono ?_
   rintro e_ W3 ⟨rfl,hb_⟩
   have HB3:=Lib.hid (zAd HB.out hb_)
   have HX3:=Lib.hid (zAe HX.out hb_)
   have HS3:=Lib.hid (HS.out.below hb_)
   clear hb_
   have d0:=bc_ HX3.out 0
   have d1:=bc_ HX3.out 1
   by_cases hm : m = -1
   ·subst hm
    have hR : R = 11:=by rw [HR2.out,if_pos (.inl rfl)]
    subst hR
    clear HRR HR2
    go_wp2_with fail
    go_ret2
    exact ⟨_,rfl,HB3.out⟩
   ·have hmr:=HPR.out.resolve_left hm
    obtain ⟨ad,A4,c4,eA,z0,z1,z2,z3,z4,l4,g4⟩:=at_T66 (Kd.C_below HC.out HB3.out) m hmr.1 hmr.2
    have e0:=eq_true hmr.1
    have e1:=eq_true hmr.2
    have hn1 : nOf ns m = (rd_T66 ns m).f1:=rfl
    have HPA:=Lib.hid (zCZ p At ct ns root ol m hmr.1 hmr.2 HR.out.kidsIn W3 HS3.out)
    rw [← hn1] at z1
    obtain ⟨a,ha⟩ : ∃ a,a = nOf ns m:=⟨_,rfl⟩
    rw [← ha] at z1 HR2
    obtain ⟨pl,hpl⟩ : ∃ pl,pl = paramsF ns m:=⟨_,rfl⟩
    rw [← hpl] at HPA HR2
    have hmb : (m == -1) = false:=by simpa using hm
    cases eA
    clear hmr z0 z2 z3 z4 l4 g4 hn1 ha hpl
    by_cases ha : a = 0
    ·subst ha
     go_wp2_with fail
     refine (HPA.out).mono ?_
     rintro e_ W4 ⟨v,rfl,hr_,hb_⟩
     obtain ⟨Ap,cp,rfl,hle_,hC_⟩:=Kd.R_reads hr_
     have HB4:=Lib.hid (zAd HB3.out hb_)
     have HX4:=Lib.hid (zAe HX3.out hb_)
     clear hb_ hr_ hC_ d0 d1
     have d1:=bc_ HX4.out 1
     by_cases hp : pl = []
     ·subst hp
      have hR : R = 0:=by rw [HR2.out,if_neg (by rintro (h | h | h); exact hm h; exact h rfl; exact h rfl)]
      subst hR
      clear HRR HR2
      go_wp2_with fail
      go_ret2
      exact ⟨_,rfl,HB4.out⟩
     ·have hR : R = 11:=by rw [HR2.out,if_pos (.inr (.inr hp))]
      subst hR
      have hl : 0 < pl.length:=List.length_pos_iff.2 hp
      have hlb : decide (0 < (pl.length : Int)) = true:=decide_eq_true (by omega)
      have hlb2 : decide (0 < pl.length) = true:=decide_eq_true hl
      clear HRR HR2 hp
      go_wp2_with fail
      go_ret2
      exact ⟨_,rfl,HB4.out⟩
    ·have hR : R = 11:=by rw [HR2.out,if_pos (.inr (.inl ha))]
     subst hR
     have hab : (a != 0) = true:=by simpa using ha
     clear HRR HR2
     go_wp2_with fail
     go_ret2
     exact ⟨_,rfl,HB3.out⟩
theorem rmeans_of (ns : List S66) (ol : List Int) (q : Int) (s : Nm) (h : meansF ns ol q s ≠ -1) :
  ∃ d : Nat,meansF ns ol q s = d ∧ d < ns.length ∧ (kdOf ns d = 2 ∨ kdOf ns d = 4 ∨ kdOf ns d = 5) ∧ nmOf ns d = s:=by
 unfold meansF at h ⊢
 by_cases h1 : rd ol q = -1
 ·rw [if_pos h1] at h
  exact absurd rfl h
 ·rw [if_neg h1] at h ⊢
  cases e : loF ns ol (rd ol q) ns.length s with
  | some d =>
   obtain ⟨a,b,c⟩:=zBq _ _ _ e
   obtain ⟨j,rfl⟩:=Int.eq_ofNat_of_zero_le a
   simp only [Int.toNat_natCast,Bool.and_eq_true,Bool.or_eq_true,decide_eq_true_eq] at c
   exact ⟨j,rfl,by omega,c.1.elim (fun x => .inr (.inl x)) (fun x => .inr (.inr x)),c.2.2⟩
  | none =>
   rw [e] at h
   dsimp only at h ⊢
   cases e2 : glF ns ns.length s with
   | some d =>
    obtain ⟨a,b,c⟩:=zBq _ _ _ e2
    obtain ⟨j,rfl⟩:=Int.eq_ofNat_of_zero_le a
    simp only [Int.toNat_natCast,Bool.and_eq_true,decide_eq_true_eq] at c
    exact ⟨j,rfl,by omega,.inl c.1,c.2⟩
   | none =>
    rw [e2] at h
    exact absurd rfl h
theorem bad_all (ns : List S66) (ol : List Int) : ∀ n,badF ns ol n = 0 ↔ ∀ i : Nat,i < n → checkF ns ol (i : Int) = 0
 | 0 => ⟨fun _ i h => absurd h (Nat.not_lt_zero _),fun _ => rfl⟩
 | n + 1 => by
  rw [badF]
  by_cases h : badF ns ol n = 0
  ·rw [if_pos h]
   refine ⟨fun h2 i hi => ?_,fun h2 => h2 n (by omega)⟩
   rcases Nat.lt_or_ge i n with h3 | h3
   ·exact (bad_all ns ol n).1 h i h3
   ·rw [show i = n by omega]; exact h2
  ·rw [if_neg h]
   exact ⟨fun h2 => absurd h2 h,fun h2 => absurd ((bad_all ns ol n).2 (fun i hi => h2 i (by omega))) h⟩
section
variable {ns : List S66} {root : Int} {ol : List Int} (hR : Rt ns root ol)
include hR
theorem expr_pos (i : Int) (h0 : 0 ≤ i) (h1 : i < ns.length) (k1 : 20 ≤ kdOf ns i) (k2 : kdOf ns i ≤ 27) (h : checkF ns ol i = 0) : exprF ns ol i ≠ 0:=by
 unfold exprF
 by_cases c1 : kdOf ns i = 20 ∨ kdOf ns i = 23 ∨ kdOf ns i = 24
 ·rw [if_pos c1]; decide
 rw [if_neg c1]
 by_cases c2 : kdOf ns i = 21
 ·rw [if_pos c2]; decide
 rw [if_neg c2]
 by_cases c3 : kdOf ns i = 25
 ·rw [if_pos c3]; decide
 rw [if_neg c3]
 by_cases c4 : kdOf ns i = 22
 ·rw [if_pos c4]
  have e : checkF ns ol i = namedF ns ol i true:=by unfold checkF; rw [c4]; rfl
  rw [e] at h
  unfold namedF at h
  by_cases hm : meansF ns ol i (nmOf ns i) = -1
  ·rw [if_pos hm] at h; cases h
  ·unfold kindF
   rw [if_neg hm]
   obtain ⟨d,hd,hdl,hk,_⟩:=rmeans_of ns ol i (nmOf ns i) hm
   rw [hd]
   have hn:=(hR.ok.at_ (i:=(d : Int)) (by omega) (by omega)).2.2.2.1
   unfold numB at hn
   rw [if_pos hk] at hn
   simp only [Bool.and_eq_true,decide_eq_true_eq] at hn
   omega
 rw [if_neg c4,if_pos (by omega)]
 split <;> decide
theorem wrong_eq (q : Int) (h0 : 0 ≤ q) (h1 : q < ns.length) (h : ∀ j : Int,0 ≤ j → j < q → checkF ns ol j = 0) : wrR ns ol q = checkF ns ol q:=by
 unfold wrR
 by_cases hk : kdOf ns q = 7
 ·rw [if_pos hk]
  have h7:=zCC hR.ok h0 h1 (.inl hk)
  have hmem : rd (rd_T66 ns q).f4 0 ∈ (rd_T66 ns q).f4:=by
   match (rd_T66 ns q).f4,h7.1 with
   | [a],_ => simp [rd]
  have he:=h7.2 _ hmem
  obtain ⟨kf,ps,_,hP,_⟩:=hR.par
  obtain ⟨j,rfl⟩:=Int.eq_ofNat_of_zero_le h0
  have hj : j < ns.length:=by omega
  have hd:=hP.dn j hj _ (by rw [rdT24 ns j hj] at hmem; exact hmem)
  rw [← rdT24 ns j hj] at hd
  unfold exB at he
  simp only [Bool.and_eq_true,decide_eq_true_eq] at he
  have hp:=expr_pos hR _ hd.1 (by omega) he.1 he.2 (h _ hd.1 hd.2)
  rw [beq_eq_false_iff_ne.2 hp,Bool.false_or]
  unfold checkF
  rw [hk]
  rfl
 ·rw [if_neg hk]
theorem wrong_all (n : Nat) (hn : n ≤ ns.length) : (∀ i : Nat,i < n → wrR ns ol (i : Int) = 0) ↔ badF ns ol n = 0:=by
 rw [bad_all]
 constructor
 ·intro h
  have key : ∀ m : Nat,m ≤ n → ∀ i : Nat,i < m → checkF ns ol (i : Int) = 0:=by
   intro m
   induction m with
   | zero => exact fun _ i hi => absurd hi (Nat.not_lt_zero _)
   | succ m ih =>
    intro hm i hi
    rcases Nat.lt_or_ge i m with h3 | h3
    ·exact ih (by omega) i h3
    ·rw [← wrong_eq hR (i : Int) (by omega) (by omega) (fun j j0 j1 => by
      obtain ⟨j,rfl⟩:=Int.eq_ofNat_of_zero_le j0
      exact ih (by omega) j (by omega))]
     exact h i (by omega)
  exact key n (Nat.le_refl _)
 ·intro h i hi
  rw [wrong_eq hR (i : Int) (by omega) (by omega) (fun j j0 j1 => by
   obtain ⟨j,rfl⟩:=Int.eq_ofNat_of_zero_le j0
   exact h j (by omega))]
  exact h i hi
end
def RightC (At : Option Addr) (ct : Nat) (ns : List S66) (root : Int) (b : Bool) (w : World) : Prop:=∀ W,Below w.heap.size w W → Calls Tryz.prog 42 #[.agg #[.slice At ns.length ct,.int .i64 root]] W fun e w' => e = .returned (.bool b) ∧ Below W.heap.size W w'
theorem RightC.below {At : Option Addr} {ct : Nat} {ns : List S66} {root : Int} {b : Bool} {w W : World} (h : RightC At ct ns root b w) (hb : Below w.heap.size w W) : RightC At ct ns root b W:=fun W' hb' => h W' (zAd hb hb')
theorem rCheck_no (At : Option Addr) (ct : Nat) (ns : List S66) (root : Int) (w : World) (hRT : RightC At ct ns root false w) :
  Calls Tryz.prog 22 #[.agg #[.slice At ns.length ct,.int .i64 root]] w fun e w' => e = .returned (.tuple #[.int .i64 0,.int .i64 1]) ∧ Below w.heap.size w w':=by
 obtain ⟨W0,hW0⟩ : ∃ W0,W0 = w.alloc (.cells #[.slice At ns.length ct,.int .i64 root] 24):=⟨_,rfl⟩
 have HB0:=Lib.hid (box_ref At ct ns root w W0 hW0).1
 have HX:=Lib.hid (hRT W0 HB0.out)
 have HW0:=Lib.hid hW0
 clear hW0 hRT
 go_enter Tryz.func22,Tryz.ntmps22
 go_wp2_with fail
 rw [← HW0.out]
 refine HX.out.mono ?_
 rintro e_ W1 ⟨rfl,hb_⟩
 have HB1:=Lib.hid (zAd HB0.out hb_)
 clear hb_
 go_wp2_with fail
 go_ret2
 exact ⟨rfl,HB1.out⟩
theorem rCheck_yes (At : Option Addr) (ct : Nat) (ns : List S66) (root : Int) (ol ps : List Int) (w : World) (hW : RW At ct ns root ol ps w) (hRT : RightC At ct ns root true w) :
  Calls Tryz.prog 22 #[.agg #[.slice At ns.length ct,.int .i64 root]] w fun e w' => ∃ a c : Int,e = .returned (.tuple #[.int .i64 a,.int .i64 c]) ∧ Hid (c = 0 ↔ chkF ns ol = 0) ∧ Below w.heap.size w w':=by
 obtain ⟨W0,hW0⟩ : ∃ W0,W0 = w.alloc (.cells #[.slice At ns.length ct,.int .i64 root] 24):=⟨_,rfl⟩
 have HB0:=Lib.hid (box_ref At ct ns root w W0 hW0).1
 have X0:=Lib.hid (box_ref At ct ns root w W0 hW0).2
 have HX:=Lib.hid (hRT W0 HB0.out)
 have HW0:=Lib.hid hW0
 have HW:=Lib.hid hW
 have hn4:=hW.hR.fit.1
 have HWA:=Lib.hid (wrong_all hW.hR)
 have HCK : Hid (chkF ns ol = if badF ns ol ns.length = 0 then mainF ns else badF ns ol ns.length):=Lib.hid rfl
 have hrt:=rt_in hW.hR
 have HP:=Lib.hid (fun (W : World) (hb : Below w.heap.size w W) => of_is At ct ns root root hrt.1 hrt.2 hW.hR.kidsIn 3 3 mainT W (hW.below hb).hC hW.hct)
 rw [of_pr hW.hR] at HP
 have HPR:=Lib.hid (zBd ns mainT.data.toList)
 have HPA:=Lib.hid (fun (p : Int) (p0 : 0 ≤ p) (p1 : p < ns.length) (W : World) (hb : Below w.heap.size w W) => zCL At ct ns root p p0 p1 hW.hR.kidsIn W (hW.below hb).hC hW.hct)
 have HMF : Hid (mainF ns = if procF ns mainT.data.toList = -1 ∨ nOf ns (procF ns mainT.data.toList) ≠ 0 ∨ paramsF ns (procF ns mainT.data.toList) ≠ [] then 11 else 0):=Lib.hid rfl
 clear hW0 hW hRT hrt
 go_enter Tryz.func22,Tryz.ntmps22
 go_wp2_with fail
 rw [← HW0.out]
 refine HX.out.mono ?_
 rintro e_ W1 ⟨rfl,hb_⟩
 have HB1:=Lib.hid (zAd HB0.out hb_)
 have X1:=Lib.hid (zAe X0.out hb_)
 clear hb_ HX
 go_wp2_with fail
 go_loopg [5] (ns.length + 1) (fun kq v5 W => ∃ i : Nat,v5 = .int .i64 i ∧ i ≤ ns.length ∧ Hid (i + kq = ns.length + 1) ∧ Hid (∀ j : Nat,j < i → wrR ns ol (j : Int) = 0) ∧ Hid (Below W1.heap.size W1 W))
 case atStart => exact ⟨0,rfl,Nat.zero_le _,Lib.hid (by omega),Lib.hid (fun j h => absurd h (Nat.not_lt_zero _)),Lib.hid (Below.refl _ _)⟩
 case round =>
  obtain ⟨i,rfl,hi,HN,HA,HB⟩:=hrel
  have HBW:=Lib.hid (zAd HB1.out HB.out)
  have c0:=bc_ (zAe X1.out HB.out) 0
  have c1:=bc_ (zAe X1.out HB.out) 1
  by_cases hlt : i < ns.length
  ·have HX:=Lib.hid (rwrong_is At ct ns root ol ps (i : Int) (by omega) (by omega) wr (HW.out.below HBW.out))
   obtain ⟨e,he⟩ : ∃ e,e = wrR ns ol (i : Int):=⟨_,rfl⟩
   rw [← he] at HX
   have HE:=Lib.hid he
   clear he
   go_wp2_with fail
   refine HX.out.mono ?_
   rintro e_ W2 ⟨rfl,hb_⟩
   have HB2:=Lib.hid (zAd HB.out hb_)
   clear hb_ c0 c1
   by_cases he0 : e = 0
   ·subst he0
    go_wp2_with fail
    go_roundg (gk - 1)
    case measure => have:=HN.out; omega
    case rel => exact ⟨i + 1,by norm_cast,hlt,Lib.hid (by have:=HN.out; omega),Lib.hid (fun j hj => by
     rcases Nat.lt_or_ge j i with h | h
     ·exact HA.out j h
     ·rw [show j = i by omega]; exact HE.out.symm),HB2⟩
   ·go_wp2_with fail
    go_ret2
    refine ⟨_,e,rfl,Lib.hid ⟨fun h => absurd h he0,fun h => ?_⟩,zAd HB1.out HB2.out⟩
    rw [HCK.out] at h
    by_cases hb : badF ns ol ns.length = 0
    ·rw [← HWA.out ns.length (Nat.le_refl _)] at hb
     rw [HE.out]
     exact hb i hlt
    ·rw [if_neg hb] at h
     exact absurd h hb
  ·obtain rfl : i = ns.length:=by omega
   have hck : chkF ns ol = mainF ns:=by rw [HCK.out,if_pos ((HWA.out ns.length (Nat.le_refl _)).1 HA.out)]
   rw [HMF.out] at hck
   have HX:=Lib.hid (HP.out wr HBW.out)
   obtain ⟨m,hm⟩ : ∃ m,m = procF ns mainT.data.toList:=⟨_,rfl⟩
   rw [← hm] at HPR hck HX
   have HV:=Lib.hid hck
   clear hm hck
   go_wp2_with fail
   refine HX.out.mono ?_
   rintro e_ W2 ⟨rfl,hb_⟩
   have HB2:=Lib.hid (zAd HBW.out hb_)
   have X2:=Lib.hid (zAe (zAe X1.out HB.out) hb_)
   clear hb_ c0 c1
   have c0:=bc_ X2.out 0
   have c1:=bc_ X2.out 1
   by_cases hm1 : m = -1
   ·subst hm1
    go_wp2_with fail
    go_ret2
    exact ⟨_,_,rfl,Lib.hid (by rw [HV.out,if_pos (.inl (by trivial))]),HB2.out⟩
   ·have hin:=HPR.out.resolve_left hm1
    obtain ⟨ad,s',n',rfl,_,hn',_,z1⟩:=zCB (HW.out.below HB2.out).hC hin.1 hin.2
    have HPX:=Lib.hid (HPA.out m hin.1 hin.2 W2 HB2.out)
    have hv:=HV.out
    rw [hn'] at hv
    obtain ⟨pl,hpl⟩ : ∃ pl,pl = paramsF ns m:=⟨_,rfl⟩
    rw [← hpl] at hv HPX
    have HV2:=Lib.hid hv
    have e0:=eq_true hin.1
    have e1:=eq_true hin.2
    have hno : ¬ m < 0:=by omega
    have hmb : (m == -1) = false:=beq_eq_false_iff_ne.2 hm1
    clear hv hpl hn' hin HV
    by_cases hn0 : n' = 0
    ·subst hn0
     go_wp2_with fail
     refine HPX.out.mono ?_
     rintro e_ W3 ⟨v_,rfl,hr_,hb_⟩
     obtain ⟨Ap,cp,rfl,hle_,hCp_⟩:=Kd.R_reads hr_
     have HB3:=Lib.hid (zAd HB2.out hb_)
     have X3:=Lib.hid (zAe X2.out hb_)
     clear hb_ hr_ hCp_ c0 c1 z1
     have c0:=bc_ X3.out 0
     have c1:=bc_ X3.out 1
     by_cases hp : pl = []
     ·subst hp
      go_wp2_with fail
      go_ret2
      exact ⟨_,_,rfl,Lib.hid (by rw [HV2.out,if_neg (by rintro (h | h | h); exact hm1 h; exact h rfl; exact h rfl)]),HB3.out⟩
     ·have hl : 0 < pl.length:=List.length_pos_iff.2 hp
      have hlb : decide (0 < (pl.length : Int)) = true:=decide_eq_true (by omega)
      have hlb2 : decide (0 < pl.length) = true:=decide_eq_true hl
      have HPN:=Lib.hid hp
      clear hp
      go_wp2_with fail
      go_ret2
      exact ⟨_,_,rfl,Lib.hid (by rw [HV2.out,if_pos (.inr (.inr HPN.out))]),HB3.out⟩
    ·have hnb : (n' != 0) = true:=by simpa using hn0
     go_wp2_with fail
     go_ret2
     exact ⟨_,_,rfl,Lib.hid (by rw [HV2.out,if_pos (.inr (.inl hn0))]),HB2.out⟩
structure Sm (ns : List S66) : Prop where
 n4 : ns.length ≤ 4000
 kt : ∀ x ∈ ns,x.f4.length ≤ 1000 ∧ x.f3.size ≤ 1000000
theorem Sm.kl {ns : List S66} (h : Sm ns) : ∀ x ∈ ns,x.f4.length ≤ 4000:=fun x hx => by have:=(h.kt x hx).1; omega
theorem dep_uniq {ns : List S66} {root : Int} {k k' : Nat} {d d' : Int} (h : zAp.f k ns root = some d) (h' : zAp.f k' ns root = some d') : d = d':=by
 have hm : ∀ a b,a ≤ b → LeO (zAp.f a ns root) (zAp.f b ns root):=fun a b hab => by
  induction hab with
  | refl => exact LeO.refl _
  | step _ ih => exact fun r hr => zAp.mono _ _ _ r (ih r hr)
 rcases Nat.le_total k k' with hab | hab
 ·have:=hm _ _ hab _ h
  rw [h'] at this
  exact (Option.some.inj this).symm
 ·have:=hm _ _ hab _ h'
  rw [h] at this
  exact Option.some.inj this
theorem rright_is (At : Option Addr) (ct : Nat) (ns : List S66) (root : Int) (b : Bool) (hb : rtB ns root b) (hsm : Sm ns) (w : World) (hC : Kd.C k66 w At ns.length ns) (hct : ns.length ≤ ct) :
  Calls Tryz.prog 42 #[.agg #[.slice At ns.length ct,.int .i64 root]] w fun e w' => e = .returned (.bool b) ∧ Below w.heap.size w w':=by
 obtain ⟨W0,hW0⟩ : ∃ W0,W0 = w.alloc (.cells #[.slice At ns.length ct,.int .i64 root] 24):=⟨_,rfl⟩
 have HB0:=Lib.hid (box_ref At ct ns root w W0 hW0).1
 have X0:=Lib.hid (box_ref At ct ns root w W0 hW0).2
 have HW0:=Lib.hid hW0
 rcases hb with ⟨hs,rfl⟩ | ⟨hF,hn0,hrt,hs,kf,d,hd,hbb⟩
 ·have HX:=Lib.hid (zCw At ct ns root hsm.n4 hsm.kl W0 (Kd.C_below hC HB0.out) hct false (snd_iff hs))
  clear hW0 hC hsm hs
  go_enter Tryz.func42,Tryz.ntmps42
  go_wp2_with fail
  rw [← HW0.out]
  refine HX.out.mono ?_
  rintro e_ W1 ⟨rfl,hb_⟩
  have HB1:=Lib.hid (zAd HB0.out hb_)
  clear hb_
  go_wp2_with fail
  go_ret
  exact ⟨rfl,HB1.out⟩
 ·have hG:=(snd_iff hs).1 rfl
  obtain ⟨T,hns,hT,hr⟩ : ∃ T : RT,ns = RT.flat 0 T ∧ T.size ≤ 4000 ∧ root = (T.size : Int) - 1:=by
   rcases zBo ns root with h | ⟨T,h1,h2,h3⟩
   ·rw [hs] at h; cases h
   ·exact ⟨T,h1,h2,h3⟩
  obtain ⟨kf',hd'⟩:=(depth_ev T hT).rounds
  rw [← hns,← hr] at hd'
  have hdT:=dep_uniq hd hd'
  rw [hdT] at hbb
  have HX:=Lib.hid (zCw At ct ns root hsm.n4 hsm.kl W0 (Kd.C_below hC HB0.out) hct true (snd_iff hs))
  have HD:=Lib.hid (fun (W : World) (hb : Below w.heap.size w W) => rdepth_is At ct T hT ns hns root hG hsm.kl W (Kd.C_below hC hb) hct)
  have HSH:=Lib.hid (fun (W : World) (hb : Below w.heap.size w W) => rshaped_is At ct ns root hsm.n4 (fun x hx => (hF.2 x hx).1) hsm.kt W (Kd.C_below hC hb) hct)
  have hbr : b = (!decide ((T.depth : Int) > 40) && kdOf ns root == 1 && ns.all (okN ns)):=hbb
  obtain ⟨dd,hdd⟩ : ∃ dd,dd = (T.depth : Int):=⟨_,rfl⟩
  rw [← hdd] at HD hbr
  obtain ⟨al,hal⟩ : ∃ al,al = ns.all (okN ns):=⟨_,rfl⟩
  rw [← hal] at HSH hbr
  obtain ⟨ad,eA,x0⟩:=zCA hC (show 0 ≤ root by omega) (show root < ns.length by omega)
  obtain ⟨kd,hkd⟩ : ∃ kd,kd = kdOf ns root:=⟨_,rfl⟩
  rw [← hkd] at x0 hbr
  have HV:=Lib.hid hbr
  have HX0:=Lib.hid x0
  have e0 : (0 ≤ root) = True:=eq_true (by omega)
  have e1 : (root < (ns.length : Int)) = True:=eq_true (by omega)
  cases eA
  clear hW0 hC hsm hs hG hns hT hr hd hd' hdT hbb hbr hdd hal hkd hF x0 hrt hn0
  go_enter Tryz.func42,Tryz.ntmps42
  go_wp2_with fail
  rw [← HW0.out]
  refine HX.out.mono ?_
  rintro e_ W1 ⟨rfl,hb_⟩
  have HB1:=Lib.hid (zAd HB0.out hb_)
  have X1:=Lib.hid (zAe X0.out hb_)
  clear hb_
  have c0:=bc_ X1.out 0
  have c1:=bc_ X1.out 1
  go_wp2_with fail
  refine (HD.out W1 HB1.out).mono ?_
  rintro e_ W2 ⟨rfl,hb_⟩
  have HB2:=Lib.hid (zAd HB1.out hb_)
  have X2:=Lib.hid (zAe X1.out hb_)
  clear hb_ c0 c1
  have c0:=bc_ X2.out 0
  have c1:=bc_ X2.out 1
  have x1:=zAb HB2.out HX0.out
  by_cases hd4 : 40 < dd
  ·have HV2 : Hid (b = false):=Lib.hid (by rw [HV.out,decide_eq_true hd4]; rfl)
   clear HV
   go_wp2_with fail
   go_ret
   exact ⟨by rw [HV2.out]; rfl,HB2.out⟩
  ·by_cases hk1 : kd = 1
   ·have HV2 : Hid (b = al):=Lib.hid (by rw [HV.out,decide_eq_false hd4,hk1]; simp)
    clear HV
    subst hk1
    go_wp2_with fail
    refine (HSH.out W2 HB2.out).mono ?_
    rintro e_ W3 ⟨rfl,hb_⟩
    have HB3:=Lib.hid (zAd HB2.out hb_)
    clear hb_ c0 c1 x1
    go_wp2_with fail
    go_ret
    exact ⟨by rw [HV2.out]; rfl,HB3.out⟩
   ·have hkb : (kd == 1) = false:=beq_eq_false_iff_ne.2 hk1
    have hkc : (kd != 1) = true:=by rw [bne,hkb]; rfl
    have HV2 : Hid (b = false):=Lib.hid (by rw [HV.out,hkb]; simp)
    clear HV
    go_wp2_with fail
    go_ret
    exact ⟨by rw [HV2.out]; rfl,HB2.out⟩
theorem rw_of (At : Option Addr) (ct : Nat) (ns : List S66) (root : Int) (ol : List Int) (hR : Rt ns root ol) (hsm : Sm ns) (w : World) (hC : Kd.C k66 w At ns.length ns) (hct : ns.length ≤ ct) : RW At ct ns root ol (parsOf ns) w:=by
 have hG:=(snd_iff hR.right.1).1 rfl
 obtain ⟨T,hns,hT,hr⟩ : ∃ T : RT,ns = RT.flat 0 T ∧ T.size ≤ 4000 ∧ root = (T.size : Int) - 1:=by
  rcases zBo ns root with h | ⟨T,h1,h2,h3⟩
  ·rw [hR.right.1] at h; cases h
  ·exact ⟨T,h1,h2,h3⟩
 have hP : ParOk ns (parsOf ns):=hns ▸ pars_ok T hT
 obtain ⟨kf,ps,h1,h2,h3⟩:=hR.par
 obtain ⟨kf',hp'⟩:=(pars_ev T hT).rounds
 rw [← hns,← hr] at hp'
 have hm : ∀ a b,a ≤ b → LeO (zAm.f a ns root) (zAm.f b ns root):=fun a b hab => by
  induction hab with
  | refl => exact LeO.refl _
  | step _ ih => exact fun r hr => zAm.mono _ _ _ r (ih r hr)
 have e : ps = parsOf ns:=by
  rcases Nat.le_total kf kf' with hab | hab
  ·have:=hm _ _ hab _ h1
   rw [hp'] at this
   exact (Option.some.inj this).symm
  ·have:=hm _ _ hab _ hp'
   rw [h1] at this
   exact Option.some.inj this
 rw [e] at h3
 have hroot : rd (parsOf ns) root = -1:=by
  have h0:=(zCS ns ((List.replicate ns.length (0 : Int)).set (ns.length - 1) (-1)) (fun x hx k hk => by
   obtain ⟨i,hi,rfl⟩:=List.mem_iff_getElem.1 hx
   exact (hG.rg i hi k hk).1) ns.length 0 _ (by omega) rfl (fun j hj => .inr ⟨fun i' h => absurd h (Nat.not_lt_zero _),rfl⟩)).2 (ns.length - 1) (by have:=hG.n1; simp; omega)
  rw [List.drop_zero] at h0
  have hn1:=hG.n1
  have er : root = ((ns.length - 1 : Nat) : Int):=by have:=hG.rt; omega
  rw [er]
  rcases h0 with ⟨i',h4,⟨h5,h6⟩,h7⟩ | ⟨_,h4⟩
  ·have:=(hG.rg i' h5 _ h6).2; omega
  ·rw [show parsOf ns = parF ns 0 ((List.replicate ns.length (0 : Int)).set (ns.length - 1) (-1)) from rfl,h4,rd_set _ _ _ _ (by simp; omega),if_pos rfl]
 exact ⟨hR,⟨hP,h3,hroot⟩,hC,hct,fun W hb => rparents_is At ct ns root hG hsm.kl W (Kd.C_below hC hb) hct⟩
theorem within_is (At : Option Addr) (ct : Nat) (ns : List S66) (root : Int) (hb : rtB ns root true) (q : Int) (h0 : 0 ≤ q) (h1 : q < ns.length) (w : World) (hC : Kd.C k66 w At ns.length ns) (hct : ns.length ≤ ct) (hE : Env w) :
  Calls Tryz.prog 78 #[.agg #[.slice At ns.length ct,.int .i64 root],.int .i64 q] w fun e w' => e = .returned (.bool true) ∧ Below w.heap.size w w':=by
 have HB0:=Lib.hid (fun o => zAa (Below.refl w.heap.size w) o)
 have HX:=Lib.hid (fun o => right_b At ct ns root true hb (w.alloc o) (Kd.C_alloc hC o) hct (hE.below (zAa (Below.refl _ _) _) hE.six))
 clear hC hE hb
 go_enter Tryz.func78,Tryz.ntmps78
 go_wp2_with fail
 refine (HX.out _).mono ?_
 rintro e_ W1 ⟨rfl,hb_⟩
 have HB1:=Lib.hid (zAd (HB0.out _) hb_)
 clear hb_
 go_wp2_with fail
 go_ret
 exact ⟨rfl,HB1.out⟩
theorem box_is (At : Option Addr) (ct : Nat) (ns : List S66) (root : Int) (w W : World) (hW : W = w.alloc (.cells #[.slice At ns.length ct,.int .i64 root] 24)) :
  Below w.heap.size w W ∧ W.heap[w.heap.size]? = some (.cells #[.slice At ns.length ct,.int .i64 root] 24 (0,0)):=by
 rw [hW]
 exact ⟨zAa (Below.refl _ _) _,blk_new w _⟩
theorem Type_is (At : Option Addr) (ct : Nat) (ns : List S66) (root : Int) (ol : List Int) (hR : Rt ns root ol) (hb : rtB ns root true) (q : Int) (h0 : 0 ≤ q) (h1 : q < ns.length) (w : World) (hC : Kd.C k66 w At ns.length ns) (hct : ns.length ≤ ct) (hE : Env w) :
  Calls Tryz.prog 41 #[.agg #[.slice At ns.length ct,.int .i64 root],.int .i64 q] w fun e w' => e = .returned (.int .i64 (exprF ns ol q)) ∧ Below w.heap.size w w':=by
 obtain ⟨W0,hW0⟩ : ∃ W0,W0 = w.alloc (.cells #[.slice At ns.length ct,.int .i64 root] 24):=⟨_,rfl⟩
 have HB0:=Lib.hid (box_is At ct ns root w W0 hW0).1
 have X0:=Lib.hid (box_is At ct ns root w W0 hW0).2
 have HW0:=Lib.hid hW0
 have HR:=Lib.hid hR
 have HC:=Lib.hid hC
 have HE:=Lib.hid hE
 have HRB:=Lib.hid hb
 clear hW0 hR hC hE hb
 go_enter Tryz.func41,Tryz.ntmps41
 go_wp2_with fail
 rw [← HW0.out]
 refine (within_is At ct ns root HRB.out q h0 h1 W0 (Kd.C_below HC.out HB0.out) hct (HE.out.below HB0.out HE.out.six)).mono ?_
 rintro e_ W1 ⟨rfl,hb_⟩
 have HB1:=Lib.hid (zAd HB0.out hb_)
 have X1:=Lib.hid (zAe X0.out hb_)
 clear hb_ HB0 X0 HW0
 have c0:=bc_ X1.out 0
 have c1:=bc_ X1.out 1
 go_wp2_with fail
 refine (zDg At ct ns root ol HR.out W1 (Kd.C_below HC.out HB1.out) hct).mono ?_
 rintro e_ W2 ⟨p,rfl,hs_,hb_⟩
 have HB2:=Lib.hid (zAd HB1.out hb_)
 have HX:=Lib.hid (expr_is p At ct ns root ol q h0 h1 W2 hs_)
 clear hb_ hs_ HB1 X1 c0 c1
 go_wp2_with fail
 refine HX.out.mono ?_
 rintro e_ W3 ⟨rfl,hb_⟩
 have HB3:=Lib.hid (zAd HB2.out hb_)
 clear hb_
 go_wp2_with fail
 go_ret
 exact ⟨rfl,HB3.out⟩
theorem Procedure_is (At : Option Addr) (ct : Nat) (ns : List S66) (root : Int) (ol : List Int) (hR : Rt ns root ol) (hb : rtB ns root true) (s : ByteArray) (hs : s.size ≤ 140737488351232) (w : World) (hC : Kd.C k66 w At ns.length ns) (hct : ns.length ≤ ct) (hE : Env w) :
  Calls Tryz.prog 39 #[.agg #[.slice At ns.length ct,.int .i64 root],.string s] w fun e w' => e = .returned (.int .i64 (procF ns s.data.toList)) ∧ Below w.heap.size w w':=by
 obtain ⟨W0,hW0⟩ : ∃ W0,W0 = w.alloc (.cells #[.slice At ns.length ct,.int .i64 root] 24):=⟨_,rfl⟩
 have HB0:=Lib.hid (box_is At ct ns root w W0 hW0).1
 have X0:=Lib.hid (box_is At ct ns root w W0 hW0).2
 have HW0:=Lib.hid hW0
 have HR:=Lib.hid hR
 have HC:=Lib.hid hC
 have HE:=Lib.hid hE
 have HRB:=Lib.hid hb
 clear hW0 hR hC hE hb
 go_enter Tryz.func39,Tryz.ntmps39
 go_wp2_with fail
 rw [← HW0.out]
 refine (right_b At ct ns root true HRB.out W0 (Kd.C_below HC.out HB0.out) hct (HE.out.below HB0.out HE.out.six)).mono ?_
 rintro e_ W1 ⟨rfl,hb_⟩
 have HB1:=Lib.hid (zAd HB0.out hb_)
 have X1:=Lib.hid (zAe X0.out hb_)
 clear hb_ HB0 X0 HW0
 have c0:=bc_ X1.out 0
 have c1:=bc_ X1.out 1
 go_wp2_with fail
 refine (zDg At ct ns root ol HR.out W1 (Kd.C_below HC.out HB1.out) hct).mono ?_
 rintro e_ W2 ⟨p,rfl,hs_,hb_⟩
 have HB2:=Lib.hid (zAd HB1.out hb_)
 have HX:=Lib.hid (proc_is p At ct ns root ol s hs W2 hs_)
 clear hb_ hs_ HB1 X1 c0 c1
 go_wp2_with fail
 refine HX.out.mono ?_
 rintro e_ W3 ⟨rfl,hb_⟩
 have HB3:=Lib.hid (zAd HB2.out hb_)
 clear hb_
 go_wp2_with fail
 go_ret
 exact ⟨rfl,HB3.out⟩
end Go.Proofs.YtkhlfdcjgooogaaGreat.P
