import Derived.Test.YtkhlfdcjgooogaaGreatReP
import Derived.Test.YtkhlfdcjgooogaaGreatWMore
import Derived.Test.YtkhlfdcjgooogaaGreatTyF
import Derived.BigQuiet
import Derived.Test.YtkhlfdcjgooogaaGreatPf103
set_option maxRecDepth 100000
set_option maxHeartbeats 16000000
set_option linter.unusedVariables false
set_option linter.unusedSimpArgs false
set_option linter.unusedSectionVars false
namespace Go.Proofs.YtkhlfdcjgooogaaGreat.P
open Go.RowKit Go.Proofs.YtkhlfdcjgooogaaGreatW.PrintWords Go.Proofs.YtkhlfdcjgooogaaGreatW.PrintLast Go.Proofs.YtkhlfdcjgooogaaGreatW.PrintMore
def Mt (ns : List S66) (a b : Int) (s : Nm) (k : Int) : Prop:=(kdOf ns k = a ∨ kdOf ns k = b) ∧ nmOf ns k = s
theorem zDq (ns : List S66) (a b : Int) (s : Nm) : ∀ ks : List Int,ks.Pairwise (· < ·) → (ofL ns a b s ks = -1 ∧ ∀ k ∈ ks,¬ Mt ns a b s k) ∨ (∃ k ∈ ks,Mt ns a b s k ∧ ofL ns a b s ks = k ∧ ∀ k' ∈ ks,Mt ns a b s k' → k ≤ k')
 | [],_ => .inl ⟨rfl,fun k hk => by cases hk⟩
 | k :: ks,h => by
  rw [List.pairwise_cons] at h
  by_cases hm : Mt ns a b s k
  ·have e : ofL ns a b s (k :: ks) = k:=if_pos hm
   rw [e]
   refine .inr ⟨k,by simp,hm,rfl,fun k' hk' _ => ?_⟩
   rcases List.mem_cons.1 hk' with e | hk'
   ·omega
   ·have:=h.1 k' hk'; omega
  ·have e : ofL ns a b s (k :: ks) = ofL ns a b s ks:=if_neg hm
   rw [e]
   rcases zDq ns a b s ks h.2 with ⟨h1,h2⟩ | ⟨d,h1,h2,h3,h4⟩
   ·refine .inl ⟨h1,fun k' hk' => ?_⟩
    rcases List.mem_cons.1 hk' with e | hk'
    ·rw [e]; exact hm
    ·exact h2 k' hk'
   ·refine .inr ⟨d,List.mem_cons_of_mem _ h1,h2,h3,fun k' hk' hm' => ?_⟩
    rcases List.mem_cons.1 hk' with e | hk'
    ·rw [e] at hm'; exact absurd hm' hm
    ·exact h4 k' hk' hm'
theorem zCt (p : Nat → Bool) : ∀ n : Nat,(fstI p n = none ∧ ∀ j,j < n → p j = false) ∨ (∃ d : Nat,d < n ∧ fstI p n = some (d : Int) ∧ p d = true ∧ ∀ j,j < d → p j = false)
 | 0 => .inl ⟨rfl,fun j hj => absurd hj (Nat.not_lt_zero _)⟩
 | n + 1 => by
  rcases zCt p n with ⟨h1,h2⟩ | ⟨d,h1,h2,h3,h4⟩
  ·unfold fstI
   rw [h1]
   by_cases hp : p n = true
   ·refine .inr ⟨n,by omega,by simp [hp],hp,h2⟩
   ·refine .inl ⟨by simp [hp],fun j hj => ?_⟩
    rcases Nat.lt_or_ge j n with h | h
    ·exact h2 j h
    ·have : j = n:=by omega
     rw [this]; simpa using hp
  ·refine .inr ⟨d,by omega,?_,h3,h4⟩
   unfold fstI
   rw [h2]
def orNo : Option Int → Int
 | some d => d
 | none => -1
theorem ofL_fst (ns : List S66) (a b : Int) (s : Nm) (ks : List Int) (n : Nat) (p : Nat → Bool) (hs : ks.Pairwise (· < ·)) (h1 : ∀ k ∈ ks,0 ≤ k ∧ k < n ∧ (Mt ns a b s k → p k.toNat = true)) (h2 : ∀ j : Nat,j < n → p j = true → (j : Int) ∈ ks ∧ Mt ns a b s j) :
  ofL ns a b s ks = orNo (fstI p n):=by
 rcases zCt p n with ⟨e,hn⟩ | ⟨d,hd,e,hp,hn⟩
 ·rw [e]
  rcases zDq ns a b s ks hs with ⟨h3,_⟩ | ⟨k,h3,h4,h5,_⟩
  ·exact h3
  ·have:=h1 k h3
   have h6:=hn k.toNat (by omega)
   rw [this.2.2 h4] at h6; cases h6
 ·rw [e]
  obtain ⟨m1,m2⟩:=h2 d hd hp
  rcases zDq ns a b s ks hs with ⟨h3,h4⟩ | ⟨k,h3,h4,h5,h6⟩
  ·exact absurd m2 (h4 _ m1)
  ·rw [h5]
   have:=h6 d m1 m2
   have hk:=h1 k h3
   by_cases c : k.toNat < d
   ·have h7:=hn _ c
    rw [hk.2.2 h4] at h7; cases h7
   ·show k = (d : Int)
    omega
section
variable {ns : List S66} {root : Int} {ol : List Int} (hR : Rt ns root ol)
include hR
theorem rt_in : 0 ≤ root ∧ root < ns.length:=by have:=hR.rt; have:=hR.n0; omega
theorem kids_in (i : Int) (h0 : 0 ≤ i) (h1 : i < ns.length) : ∀ k ∈ (rd_T66 ns i).f4,0 ≤ k ∧ k < ns.length:=(hR.fit.2 _ (zAA ns i h0 h1)).1
theorem of_gl (s : Nm) : ofL ns 2 2 s (rd_T66 ns root).f4 = orNo (glF ns ns.length s):=by
 have hr:=rt_in hR
 refine ofL_fst ns 2 2 s _ ns.length _ (zCz hR root hr.1 hr.2) (fun k hk => ?_) (fun j hj hp => ?_)
 ·have:=kids_in hR root hr.1 hr.2 k hk
  refine ⟨this.1,this.2,fun hm => ?_⟩
  obtain ⟨j,rfl⟩:=Int.eq_ofNat_of_zero_le this.1
  obtain ⟨h1,h2⟩:=hm
  simp only [Int.toNat_natCast,Bool.and_eq_true,decide_eq_true_eq]
  exact ⟨h1.elim id id,h2⟩
 ·simp only [Bool.and_eq_true,decide_eq_true_eq] at hp
  exact ⟨zCy hR j (by omega) (by omega) (.inl hp.1),.inl hp.1,hp.2⟩
theorem of_pr (s : Nm) : ofL ns 3 3 s (rd_T66 ns root).f4 = procF ns s:=by
 have hr:=rt_in hR
 have e : procF ns s = orNo (prF ns ns.length s):=by
  unfold procF
  cases prF ns ns.length s <;> rfl
 rw [e]
 refine ofL_fst ns 3 3 s _ ns.length _ (zCz hR root hr.1 hr.2) (fun k hk => ?_) (fun j hj hp => ?_)
 ·have:=kids_in hR root hr.1 hr.2 k hk
  refine ⟨this.1,this.2,fun hm => ?_⟩
  obtain ⟨j,rfl⟩:=Int.eq_ofNat_of_zero_le this.1
  obtain ⟨h1,h2⟩:=hm
  simp only [Int.toNat_natCast,Bool.and_eq_true,decide_eq_true_eq]
  exact ⟨h1.elim id id,h2⟩
 ·simp only [Bool.and_eq_true,decide_eq_true_eq] at hp
  exact ⟨zCy hR j (by omega) (by omega) (.inr hp.1),.inl hp.1,hp.2⟩
theorem of_lo (o : Int) (o0 : 0 ≤ o) (o1 : o < ns.length) (ho : kdOf ns o = 3) (s : Nm) : ofL ns 4 5 s (rd_T66 ns o).f4 = orNo (loF ns ol o ns.length s):=by
 refine ofL_fst ns 4 5 s _ ns.length _ (zCz hR o o0 o1) (fun k hk => ?_) (fun j hj hp => ?_)
 ·have:=kids_in hR o o0 o1 k hk
  refine ⟨this.1,this.2,fun hm => ?_⟩
  obtain ⟨j,rfl⟩:=Int.eq_ofNat_of_zero_le this.1
  obtain ⟨h1,h2⟩:=hm
  simp only [Int.toNat_natCast,Bool.and_eq_true,Bool.or_eq_true,decide_eq_true_eq]
  exact ⟨h1,(own_kids hR j (by omega) (by omega) h1 o o0 o1 ho).2 hk,h2⟩
 ·simp only [Bool.and_eq_true,Bool.or_eq_true,decide_eq_true_eq] at hp
  exact ⟨(own_kids hR j (by omega) (by omega) hp.1 o o0 o1 ho).1 hp.2.1,hp.1,hp.2.2⟩
theorem means_of_ref (q : Int) (h0 : 0 ≤ q) (h1 : q < ns.length) (s : Nm) : meansF ns ol q s = if rd ol q = -1 then -1 else if ofL ns 4 5 s (rd_T66 ns (rd ol q)).f4 < 0 then ofL ns 2 2 s (rd_T66 ns root).f4 else ofL ns 4 5 s (rd_T66 ns (rd ol q)).f4:=by
 unfold meansF
 by_cases hq : rd ol q = -1
 ·rw [if_pos hq,if_pos hq]
 ·rw [if_neg hq,if_neg hq]
  have ho:=(hR.own.2 q h0 h1).resolve_left hq
  rw [of_lo hR _ ho.1 ho.2.1 ho.2.2 s,of_gl hR s]
  cases e : loF ns ol (rd ol q) ns.length s with
  | some d =>
   have:=zBq _ _ _ e
   show d = if d < 0 then _ else d
   rw [if_neg (by omega)]
  | none =>
   show _ = if (-1 : Int) < 0 then _ else _
   rw [if_pos (by decide)]
   cases glF ns ns.length s <;> rfl
end
def ParC (At : Option Addr) (ct : Nat) (ns : List S66) (root : Int) (ps : List Int) (w : World) : Prop:=∀ W,Below w.heap.size w W → Calls Tryz.prog 119 #[.agg #[.slice At ns.length ct,.int .i64 root]] W fun e w' => ∃ (A : Option Addr) (c : Nat),e = .returned (.slice A ps.length c) ∧ ps.length ≤ c ∧ Kd.C (Kd.int .i64) w' A ps.length ps ∧ Below W.heap.size W w'
theorem ParC.below {At : Option Addr} {ct : Nat} {ns : List S66} {root : Int} {ps : List Int} {w W : World} (h : ParC At ct ns root ps w) (hb : Below w.heap.size w W) : ParC At ct ns root ps W:=fun W' hb' => h W' (zAd hb hb')
structure Pr (ns : List S66) (root : Int) (ol ps : List Int) : Prop where
 hP : ParOk ns ps
 hO : OwnEq ns ps root ol
 rt : rd ps root = -1
theorem zDj (At : Option Addr) (ct : Nat) (ns : List S66) (root : Int) (ol ps : List Int) (hR : Rt ns root ol) (hPr : Pr ns root ol ps) (q : Int) (h0 : 0 ≤ q) (h1 : q < ns.length) (w : World) (hC : Kd.C k66 w At ns.length ns) (hct : ns.length ≤ ct) (hPar : ParC At ct ns root ps w) :
  Calls Tryz.prog 89 #[.agg #[.slice At ns.length ct,.int .i64 root],.int .i64 q] w fun e w' => e = .returned (.int .i64 (rd ol q)) ∧ Below w.heap.size w w':=by
 obtain ⟨W0,hW0⟩ : ∃ W0,W0 = w.alloc (.cells #[.slice At ns.length ct,.int .i64 root] 24):=⟨_,rfl⟩
 have HB0:=Lib.hid (box_ref At ct ns root w W0 hW0).1
 have X0:=Lib.hid (box_ref At ct ns root w W0 hW0).2
 have HW0:=Lib.hid hW0
 have HC:=Lib.hid hC
 have HPAR:=Lib.hid (hPar W0 HB0.out)
 have HPR:=Lib.hid hPr
 have HR:=Lib.hid hR
 have hn4:=hR.fit.1
 have HRT:=Lib.hid hR.rt
 clear hW0 hC hPar hPr hR
 go_enter Tryz.func89,Tryz.ntmps89
 go_wp2_with fail
 rw [← HW0.out]
 refine HPAR.out.mono ?_
 rintro e_ W1 ⟨Ap,cp,rfl,hle_,hCp_,hb_⟩
 have HCP:=Lib.hid hCp_
 have HB1:=Lib.hid (zAd HB0.out hb_)
 have X1:=Lib.hid (zAe X0.out hb_)
 clear hb_ hCp_ HB0 X0 HW0 HPAR
 go_wp2_with fail
 go_loopg [6] (ns.length + 1) (fun kq v6 W => ∃ i : Int,v6 = .int .i64 i ∧ -1 ≤ i ∧ i < ns.length ∧ Hid (0 ≤ i → (ns.length : Int) - i ≤ kq) ∧ Hid (rd ol q = if i = -1 then -1 else rd ol i) ∧ Hid (Below W1.heap.size W1 W))
 case atStart => exact ⟨q,rfl,by omega,h1,Lib.hid (by omega),Lib.hid (by rw [if_neg (by omega)]),Lib.hid (Below.refl _ _)⟩
 case round =>
  obtain ⟨i,rfl,hi0,hi1,HN,HO,HB⟩:=hrel
  have c0:=bc_ (zAe X1.out HB.out) 0
  by_cases hneg : i < 0
  ·have hi : i = -1:=by omega
   subst hi
   go_wp2_with fail
   go_ret
   exact ⟨by rw [HO.out]; rfl,zAd HB1.out HB.out⟩
  ·have hi : 0 ≤ i:=by omega
   have ho:=HO.out
   rw [if_neg (by omega)] at ho
   have hO2:=HPR.out.hO.2 i hi hi1
   obtain ⟨ad,A4,c4,eA,z0,z1,z2,z3,z4,l4,g4⟩:=at_T66 (Kd.C_below HC.out (zAd HB1.out HB.out)) i hi hi1
   have hk0 : kdOf ns i = (rd_T66 ns i).f0:=rfl
   rw [hk0] at hO2
   obtain ⟨k,hk⟩ : ∃ k,k = (rd_T66 ns i).f0:=⟨_,rfl⟩
   rw [← hk] at z0 hO2
   have e0:=eq_true hi
   have e1:=eq_true hi1
   have HO2:=Lib.hid hO2
   have HOQ:=Lib.hid ho
   cases eA
   clear z1 z2 z3 z4 l4 g4 hk hk0 hO2 ho HO
   by_cases hk3 : k = 3
   ·go_wp2_with fail
    go_ret
    exact ⟨by rw [HOQ.out,HO2.out,if_pos hk3]; rfl,zAd HB1.out HB.out⟩
   ·have hl:=HPR.out.hP.len
    obtain ⟨adP,eP,y0⟩:=Kd.at_int (Kd.C_below HCP.out HB.out) i hi (by omega)
    have hrt:=HRT.out
    have hnext : rd ps i = -1 ∧ i = root ∨ (i < rd ps i ∧ rd ps i < ns.length ∧ i ≠ root):=by
     by_cases hr : i = root
     ·exact .inl ⟨by rw [hr]; exact HPR.out.rt,hr⟩
     ·have:=HPR.out.hP.lt i hi (by omega); exact .inr ⟨this.1,this.2,hr⟩
    have e2 : (i < (ps.length : Int)) = True:=eq_true (by omega)
    clear hl
    obtain ⟨nx,hnx⟩ : ∃ nx,nx = rd ps i:=⟨_,rfl⟩
    have hO3:=HO2.out
    rw [← hnx] at y0 hnext hO3
    have HNX:=Lib.hid hnext
    have HO3:=Lib.hid hO3
    cases eP
    clear hnx hnext hO3 HO2 hrt
    go_wp2_with fail
    go_roundg (gk - 1)
    case measure =>
     have h1:=HN.out hi
     omega
    case rel =>
     have h1:=HN.out hi
     refine ⟨nx,rfl,by rcases HNX.out with h | h <;> omega,by rcases HNX.out with h | h <;> omega,Lib.hid (fun h => by rcases HNX.out with h2 | h2 <;> omega),Lib.hid ?_,HB⟩
     rw [HOQ.out,HO3.out,if_neg hk3]
     rcases HNX.out with ⟨h2,h3⟩ | ⟨h2,h3,h4⟩
     ·rw [if_pos h3,if_pos h2]
     ·rw [if_neg h4,if_neg (by omega)]
structure RW (At : Option Addr) (ct : Nat) (ns : List S66) (root : Int) (ol ps : List Int) (w : World) : Prop where
 hR : Rt ns root ol
 hPr : Pr ns root ol ps
 hC : Kd.C k66 w At ns.length ns
 hct : ns.length ≤ ct
 hPar : ParC At ct ns root ps w
theorem RW.below {At : Option Addr} {ct : Nat} {ns : List S66} {root : Int} {ol ps : List Int} {w W : World} (h : RW At ct ns root ol ps w) (hb : Below w.heap.size w W) : RW At ct ns root ol ps W:=⟨h.hR,h.hPr,Kd.C_below h.hC hb,h.hct,h.hPar.below hb⟩
theorem zCD (At : Option Addr) (ct : Nat) (ns : List S66) (root : Int) (ol ps : List Int) (q : Int) (h0 : 0 ≤ q) (h1 : q < ns.length) (s : ByteArray) (w : World) (hW : RW At ct ns root ol ps w) :
  Calls Tryz.prog 115 #[.agg #[.slice At ns.length ct,.int .i64 root],.int .i64 q,.string s] w fun e w' => e = .returned (.int .i64 (meansF ns ol q s.data.toList)) ∧ Below w.heap.size w w':=by
 obtain ⟨W0,hW0⟩ : ∃ W0,W0 = w.alloc (.cells #[.slice At ns.length ct,.int .i64 root] 24):=⟨_,rfl⟩
 have HB0:=Lib.hid (box_ref At ct ns root w W0 hW0).1
 have X0:=Lib.hid (box_ref At ct ns root w W0 hW0).2
 have HW0:=Lib.hid hW0
 have hown:=hW.hR.own.2 q h0 h1
 have hrt:=rt_in hW.hR
 have hOW:=Lib.hid (zDj At ct ns root ol ps hW.hR hW.hPr q h0 h1 W0 (Kd.C_below hW.hC HB0.out) hW.hct (hW.hPar.below HB0.out))
 have hOF:=fun (p a b : Int) (p0 : 0 ≤ p) (p1 : p < ns.length) (W : World) (hb : Below w.heap.size w W) => of_is At ct ns root p p0 p1 hW.hR.kidsIn a b s W (Kd.C_below hW.hC hb) hW.hct
 have hmr:=means_of_ref hW.hR q h0 h1 s.data.toList
 obtain ⟨o,ho⟩ : ∃ o,o = rd ol q:=⟨_,rfl⟩
 rw [← ho] at hown hOW hmr
 have HOF:=Lib.hid hOF
 have HMR:=Lib.hid hmr
 have HRT:=Lib.hid hrt
 obtain ⟨m,hm⟩ : ∃ m,m = meansF ns ol q s.data.toList:=⟨_,rfl⟩
 rw [← hm] at HMR ⊢
 clear hW0 hW hOF hmr ho hm hrt
 go_enter Tryz.func115,Tryz.ntmps115
 go_wp2_with fail
 rw [← HW0.out]
 refine hOW.out.mono ?_
 rintro e_ W1 ⟨rfl,hb_⟩
 have HB1:=Lib.hid (zAd HB0.out hb_)
 have X1:=Lib.hid (zAe X0.out hb_)
 clear hb_ HB0 X0 HW0 hOW
 have c0:=bc_ X1.out 0
 have c1:=bc_ X1.out 1
 by_cases hm1 : o = -1
 ·have h:=HMR.out
  rw [if_pos hm1] at h
  subst hm1
  have HM:=Lib.hid h
  clear h HMR
  go_wp2_with fail
  go_ret
  exact ⟨by rw [HM.out]; rfl,HB1.out⟩
 ·have h:=HMR.out
  rw [if_neg hm1] at h
  have hin:=hown.resolve_left hm1
  have hno : ¬ o < 0:=by omega
  obtain ⟨d,hd⟩ : ∃ d,d = ofL ns 4 5 s.data.toList (rd_T66 ns o).f4:=⟨_,rfl⟩
  have HX:=Lib.hid (HOF.out o 4 5 hin.1 hin.2.1 W1 HB1.out)
  rw [← hd] at HX h
  have HM:=Lib.hid h
  clear h HMR hown hin hd
  go_wp2_with fail
  refine HX.out.mono ?_
  rintro e_ W2 ⟨rfl,hb_⟩
  have HB2:=Lib.hid (zAd HB1.out hb_)
  have X2:=Lib.hid (zAe X1.out hb_)
  clear hb_ c0 c1
  have c0:=bc_ X2.out 0
  have c1:=bc_ X2.out 1
  by_cases hd0 : d < 0
  ·have h:=HM.out
   rw [if_pos hd0] at h
   have HX2:=Lib.hid (HOF.out root 2 2 HRT.out.1 HRT.out.2 W2 HB2.out)
   rw [← h] at HX2
   clear h HM
   go_wp2_with fail
   refine HX2.out.mono ?_
   rintro e_ W3 ⟨rfl,hb_⟩
   have HB3:=Lib.hid (zAd HB2.out hb_)
   clear hb_ c0 c1
   go_wp2_with fail
   go_ret
   exact ⟨rfl,HB3.out⟩
  ·have h:=HM.out
   rw [if_neg hd0] at h
   subst h
   clear HM
   go_wp2_with fail
   go_ret
   exact ⟨rfl,HB2.out⟩
theorem zDr (At : Option Addr) (ct : Nat) (ns : List S66) (root : Int) (ol ps : List Int) (q : Int) (h0 : 0 ≤ q) (h1 : q < ns.length) (s : ByteArray) (w : World) (hW : RW At ct ns root ol ps w) :
  Calls Tryz.prog 117 #[.agg #[.slice At ns.length ct,.int .i64 root],.int .i64 q,.string s] w fun e w' => e = .returned (.int .i64 (kindF ns ol q s.data.toList)) ∧ Below w.heap.size w w':=by
 obtain ⟨W0,hW0⟩ : ∃ W0,W0 = w.alloc (.cells #[.slice At ns.length ct,.int .i64 root] 24):=⟨_,rfl⟩
 have HB0:=Lib.hid (box_ref At ct ns root w W0 hW0).1
 have X0:=Lib.hid (box_ref At ct ns root w W0 hW0).2
 have HW0:=Lib.hid hW0
 have HX:=Lib.hid (zCD At ct ns root ol ps q h0 h1 s W0 (hW.below HB0.out))
 have HC:=Lib.hid hW.hC
 have hr:=zBc ns ol q s.data.toList
 have hk : kindF ns ol q s.data.toList = if meansF ns ol q s.data.toList = -1 then 0 else nOf ns (meansF ns ol q s.data.toList):=rfl
 obtain ⟨m,hm⟩ : ∃ m,m = meansF ns ol q s.data.toList:=⟨_,rfl⟩
 rw [← hm] at HX hr hk
 obtain ⟨kk,hkk⟩ : ∃ kk,kk = kindF ns ol q s.data.toList:=⟨_,rfl⟩
 rw [← hkk] at hk ⊢
 have HKK:=Lib.hid hk
 clear hW0 hW hm hk hkk
 go_enter Tryz.func117,Tryz.ntmps117
 go_wp2_with fail
 rw [← HW0.out]
 refine HX.out.mono ?_
 rintro e_ W1 ⟨rfl,hb_⟩
 have HB1:=Lib.hid (zAd HB0.out hb_)
 have X1:=Lib.hid (zAe X0.out hb_)
 clear hb_ HB0 X0 HW0 HX
 have c0:=bc_ X1.out 0
 by_cases hm1 : m = -1
 ·subst hm1
  go_wp2_with fail
  go_ret
  exact ⟨by rw [HKK.out]; simp,HB1.out⟩
 ·have hin:=hr.resolve_left hm1
  have hno : ¬ m < 0:=by omega
  obtain ⟨ad,A4,c4,eA,z0,z1,z2,z3,z4,l4,g4⟩:=at_T66 (Kd.C_below HC.out HB1.out) m hin.1 hin.2
  have hn0 : nOf ns m = (rd_T66 ns m).f1:=rfl
  have e0:=eq_true hin.1
  have e1:=eq_true hin.2
  have hkn:=HKK.out
  rw [if_neg hm1,hn0] at hkn
  obtain ⟨n,hn⟩ : ∃ n,n = (rd_T66 ns m).f1:=⟨_,rfl⟩
  rw [← hn] at z1 hkn
  have HKN:=Lib.hid hkn
  clear hkn HKK
  cases eA
  clear z0 z2 z3 z4 l4 g4 hn0 hn hin hr
  go_wp2_with fail
  go_ret
  exact ⟨by rw [HKN.out]; rfl,HB1.out⟩
theorem zCL (At : Option Addr) (ct : Nat) (ns : List S66) (root : Int) (q : Int) (h0 : 0 ≤ q) (h1 : q < ns.length) (hKI : KidsIn ns) (w : World) (hC : Kd.C k66 w At ns.length ns) (hct : ns.length ≤ ct) :
  Calls Tryz.prog 45 #[.agg #[.slice At ns.length ct,.int .i64 root],.int .i64 q] w fun e w' => ∃ v : Value,e = .returned v ∧ Kd.R (Kd.int .i64) 3 w' w.heap.size (fun _ => True) v (paramsF ns q) ∧ Below w.heap.size w w':=by
 obtain ⟨W0,hW0⟩ : ∃ W0,W0 = w.alloc (.cells #[.slice At ns.length ct,.int .i64 root] 24):=⟨_,rfl⟩
 have HB0:=Lib.hid (box_ref At ct ns root w W0 hW0).1
 have X0:=Lib.hid (box_ref At ct ns root w W0 hW0).2
 have HZ0 : Hid (w.heap.size + 1 ≤ W0.heap.size):=Lib.hid (by rw [hW0]; simp)
 have HW0:=Lib.hid hW0
 have HC:=Lib.hid hC
 obtain ⟨ad,A4,c4,eA,z0,z1,z2,z3,z4,l4,g4⟩:=at_T66 hC q h0 h1
 have e0:=eq_true h0
 have e1:=eq_true h1
 have hkq:=hKI (rd_T66 ns q) (zAA ns q h0 h1)
 obtain ⟨kl,hkl⟩ : ∃ kl,kl = (rd_T66 ns q).f4:=⟨_,rfl⟩
 have hpar : paramsF ns q = parsL ns kl:=by rw [hkl]; rfl
 rw [← hkl] at z4 l4 g4 hkq
 rw [hpar]
 have HG4:=Lib.hid g4
 have HK:=Lib.hid hkq.1
 have hkl1:=hkq.2
 have c0:=bc_ X0.out 0
 rw [hW0] at c0
 replace z4:=zAb (zAa (Below.refl w.heap.size w) (.cells #[.slice At ns.length ct,.int .i64 root] 24)) z4
 cases eA
 clear hkl z0 z1 z2 z3 hW0 hC hkq g4 hKI hpar
 go_enter Tryz.func45,Tryz.ntmps45
 go_wp2_with fail
 clear z4 c0 e0 e1
 rw [← HW0.out]
 go_loopg [5,7] (kl.length + 1) (fun kq v5 v7 W => ∃ i : Nat,v7 = .int .i64 i ∧ i ≤ kl.length ∧ Hid (i + kq = kl.length + 1) ∧ Hid (Kd.R (Kd.int .i64) 3 W (w.heap.size + 1) (fun _ => True) v5 (parsL ns (kl.take i))) ∧ Hid (Below w.heap.size w W) ∧ Hid (w.heap.size + 1 ≤ W.heap.size) ∧ Hid (W.heap[w.heap.size]? = some (.cells #[.slice (some ad) ns.length ct,.int .i64 root] 24 (0,0))))
 case atStart => exact ⟨0,rfl,Nat.zero_le _,Lib.hid (by omega),Lib.hid (Kd.R_nil _ _ _ _ _),HB0,HZ0,X0⟩
 case round =>
  obtain ⟨i,rfl,hi,HN,HR,HB,HZ,X⟩:=hrel
  by_cases hlt : i < kl.length
  ·obtain ⟨adK,eK,y0⟩:=Kd.at_int HG4.out (i : Int) (by omega) (by omega)
   have hq : rd kl (i : Int) = kl[i]:=by simp [rd,hlt]
   rw [hq,Int.toNat_natCast] at y0
   have hin:=HK.out kl[i] (List.getElem_mem hlt)
   have hst:=parsL_snoc ns kl i hlt
   obtain ⟨kv,hkv⟩ : ∃ kv,kv = kl[i]:=⟨_,rfl⟩
   rw [← hkv] at y0 hin hst
   clear hq hkv
   have c0:=bc_ X.out 0
   obtain ⟨ad',A5,c5,eA,x0,x1,x2,x3,x4,l5,g5⟩:=at_T66 HC.out kv hin.1 hin.2
   have hk0 : kdOf ns kv = (rd_T66 ns kv).f0:=rfl
   have hn0 : nOf ns kv = (rd_T66 ns kv).f1:=rfl
   have e0:=eq_true hin.1
   have e1:=eq_true hin.2
   cases eA
   cases eK
   have hl5 : (parsL ns (kl.take i)).length ≤ 4000:=by
    have h2 : (parsL ns (kl.take i)).length ≤ (kl.take i).length:=by unfold parsL; rw [List.length_map]; exact List.length_filter_le _ _
    rw [List.length_take] at h2
    omega
   obtain ⟨x,hx⟩ : ∃ x,x = rd_T66 ns kv:=⟨_,rfl⟩
   rw [← hx] at x0 x1 x2 x3 x4 l5 g5 hk0 hn0
   obtain ⟨k,n,at_,tx,kl2⟩:=x
   dsimp only at x0 x1 x2 x3 x4 l5 g5 hk0 hn0
   have YW:=Lib.hid y0
   have XW0:=Lib.hid x0
   have XW1:=Lib.hid x1
   replace y0:=zAb HB.out y0
   replace x0:=zAb HB.out x0
   replace x1:=zAb HB.out x1
   clear x2 x3 x4
   obtain ⟨pl,hpl⟩ : ∃ pl,pl = parsL ns (kl.take i):=⟨_,rfl⟩
   rw [← hpl] at HR hst hl5
   rw [hk0,hn0] at hst
   clear hx hpl hin hk0 hn0 g5
   have HST:=Lib.hid hst
   have HL5:=Lib.hid hl5
   clear hst hl5
   by_cases hk4 : k = 4
   ·subst hk4
    go_wp2_with fail
    go_quiet (fail)
    go_wp2_with fail
    obtain ⟨W1,hW1⟩ : ∃ W1,W1 = wr.drewN nq:=⟨_,rfl⟩
    have hb1 : Below wr.heap.size wr W1:=by rw [hW1]; exact zAf (Below.refl _ _) _
    have HR1:=Lib.hid (Kd.R_below HR.out hb1)
    have HB1:=Lib.hid (zAd HB.out hb1)
    have HZ1 : Hid (w.heap.size + 1 ≤ W1.heap.size):=Lib.hid (Nat.le_trans HZ.out hb1.size)
    have X1:=Lib.hid (zAe X.out hb1)
    have d0:=zAb hb1 c0
    have dy:=zAb hb1 y0
    have dx0:=zAb hb1 x0
    have dx1:=zAb hb1 x1
    rw [← hW1]
    clear hW1 hb1 x0 x1 c0 y0
    refine start_ (n:=13) (S:=fun w' => w'.cell? ⟨w.heap.size,0,none⟩ = some (.slice (some ad) ns.length ct) ∧ w'.cell? (adK.add i) = some (.int .i64 kv) ∧ w'.cell? (ad.add (kv.toNat * 5)) = some (.int .i64 4) ∧ w'.cell? ⟨(ad.add (kv.toNat * 5)).block,(ad.add (kv.toNat * 5)).off + 1,none⟩ = some (.int .i64 n)) (ds:=[]) #[false,false,false,false,false,false,false,false,false,false,false,false,false] (by kernel_rfl) rfl rfl ⟨zAg d0,zAg dy,zAg dx0,zAg dx1⟩ (fun hHeld => ?_)
    refine pu_ 0 30 ?_
    refine pu_ 1 31 ?_
    refine pu_ 3 33 ?_
    refine pu_ 4 34 ?_
    refine pu_ 5 35 ?_
    refine ta_ 2 32 hHeld ?_
    refine ta_ 6 36 hHeld ?_
    refine pu_ 7 37 ?_
    refine pu_ 8 38 ?_
    refine ta_ 9 39 hHeld ?_
    refine on_ 10 (some 40) (fun K hK => ?_)
    refine value_ (w1:=(W1.drew).alloc (.cells #[.int .i64 n] 3)) (v:=.slice (some ⟨W1.drew.heap.size,0,none⟩) 1 1) (by rfl) rfl ?_ ?_
    ·first | (go_simp; done) | (go_simp; rfl)
    refine hK.out _ _ ⟨zAb (zAa (zAk (Below.refl W1.heap.size W1)) _) d0,zAb (zAa (zAk (Below.refl W1.heap.size W1)) _) dy,zAb (zAa (zAk (Below.refl W1.heap.size W1)) _) dx0,zAb (zAa (zAk (Below.refl W1.heap.size W1)) _) dx1⟩ (fun hHeld => ?_)
    clear hK K
    refine no_ ?_
    refine on_ 11 (some 41) (fun K hK => ?_)
    refine Kd.zBT (Kd.int .i64) (w0:=W1.drew) (w.heap.size + 1) (by rfl) (.tmp 30) (.tmp 40) 64 3 (.int .i64 0) 8 (by rfl) Tryz.underlying64 info3 rfl (by decide) (by omega) u5 pl n [.int .i64 n] (fun _ => True) (fun _ => False) (by rfl) (by rfl) rfl (fun _ hk => hk.elim) (fun _ _ => trivial) (Kd.R_drew HR1.out) (Below.refl _ _) HZ1.out (by have:=HL5.out; omega) ?_
    intro v9 w9 ho_ hb_ hg_ hat_
    have HO:=Lib.hid ho_
    have HB9:=Lib.hid hb_
    have NX : Hid (w9.heap[w.heap.size]? = some (.cells #[.slice (some ad) ns.length ct,.int .i64 root] 24 (0,0))):=Lib.hid ((HB9.out.block _ (by omega)).trans (zAl X1.out))
    have NB : Hid (Below w.heap.size w w9):=Lib.hid ((zAk HB1.out).trans (HB9.out.mono (by omega)))
    have NZ : Hid (w.heap.size + 1 ≤ w9.heap.size):=Lib.hid (Nat.le_trans HZ1.out HB9.out.size)
    have g0:=bc_ NX.out 0
    clear ho_ hb_ hg_ hat_
    refine hK.out _ _ ⟨g0,zAb NB.out YW.out,zAb NB.out XW0.out,zAb NB.out XW1.out⟩ (fun hHeld => ?_)
    clear hK K
    refine no_ ?_
    refine pu_ 12 5 ?_
    refine done_ (by kernel_rfl) ?_
    go_wp2_with fail
    go_roundg (gk - 1)
    case measure => have:=HN.out; omega
    case rel => exact ⟨i + 1,by norm_cast,hlt,Lib.hid (by have:=HN.out; omega),Lib.hid (by rw [HST.out,if_pos trivial]; exact HO.out),NB,NZ,NX⟩
   ·have hst:=HST.out
    rw [if_neg hk4] at hst
    have HST':=Lib.hid hst
    clear hst HST
    go_wp2_with fail
    go_quiet (fail)
    go_wp2_with fail
    go_roundg (gk - 1)
    case measure => have:=HN.out; omega
    case rel => exact ⟨i + 1,by norm_cast,hlt,Lib.hid (by have:=HN.out; omega),Lib.hid (by rw [HST'.out]; exact Kd.R_drewN HR.out _),Lib.hid (zAf HB.out _),HZ,X⟩
  ·obtain rfl : i = kl.length:=by omega
   rw [List.take_length] at HR
   go_wp2_with fail
   go_ret
   exact ⟨u5,rfl,Kd.R_lower HR.out (by omega),HB.out⟩
theorem rplain_is (At : Option Addr) (ct : Nat) (ns : List S66) (root : Int) (q : Int) (h0 : 0 ≤ q) (h1 : q < ns.length) (hKI : KidsIn ns) (w : World) (hC : Kd.C k66 w At ns.length ns) (hct : ns.length ≤ ct) :
  Calls Tryz.prog 85 #[.agg #[.slice At ns.length ct,.int .i64 root],.int .i64 q] w fun e w' => e = .returned (.bool (plainF ns q)) ∧ Below w.heap.size w w':=by
 obtain ⟨W0,hW0⟩ : ∃ W0,W0 = w.alloc (.cells #[.slice At ns.length ct,.int .i64 root] 24):=⟨_,rfl⟩
 have HB0:=Lib.hid (box_ref At ct ns root w W0 hW0).1
 have X0:=Lib.hid (box_ref At ct ns root w W0 hW0).2
 have HW0:=Lib.hid hW0
 have HX:=Lib.hid (zCL At ct ns root q h0 h1 hKI W0 (Kd.C_below hC HB0.out) hct)
 have HC:=Lib.hid hC
 have hpl : plainF ns q = (decide (paramsF ns q = [1]) && decide (nOf ns q = 1)):=rfl
 obtain ⟨pl,hpl2⟩ : ∃ pl,pl = paramsF ns q:=⟨_,rfl⟩
 rw [← hpl2] at HX hpl
 obtain ⟨r,hr⟩ : ∃ r,r = plainF ns q:=⟨_,rfl⟩
 rw [← hr] at hpl ⊢
 have HPL:=Lib.hid hpl
 clear hW0 hC hpl hpl2 hr
 go_enter Tryz.func85,Tryz.ntmps85
 go_wp2_with fail
 rw [← HW0.out]
 refine HX.out.mono ?_
 rintro e_ W1 ⟨v_,rfl,hr_,hb_⟩
 obtain ⟨Ap,cp,rfl,hle_,hCp_⟩:=Kd.R_reads hr_
 have HCP:=Lib.hid hCp_
 have HB1:=Lib.hid (zAd HB0.out hb_)
 have X1:=Lib.hid (zAe X0.out hb_)
 clear hb_ hr_ hCp_ HB0 X0 HW0 HX
 have c0:=bc_ X1.out 0
 obtain ⟨ad,A4,c4,eA,z0,z1,z2,z3,z4,l4,g4⟩:=at_T66 (Kd.C_below HC.out HB1.out) q h0 h1
 have hn0 : nOf ns q = (rd_T66 ns q).f1:=rfl
 have e0:=eq_true h0
 have e1:=eq_true h1
 have hp:=HPL.out
 rw [hn0] at hp
 obtain ⟨n,hn⟩ : ∃ n,n = (rd_T66 ns q).f1:=⟨_,rfl⟩
 rw [← hn] at z1 hp
 have HP:=Lib.hid hp
 cases eA
 clear z0 z2 z3 z4 l4 g4 hn0 hn hp HPL
 by_cases hl : (pl.length : Int) = 1
 ·obtain ⟨x,hx⟩ : ∃ x,pl = [x]:=by
   match pl,hl with
   | [x],_ => exact ⟨x,rfl⟩
   | x :: y :: r,h => simp at h; omega
  have HX:=Lib.hid hx
  obtain ⟨adP,eP,y0⟩:=Kd.at_int HCP.out 0 (by omega) (by omega)
  have hy : rd pl 0 = x:=by rw [hx]; rfl
  rw [hy] at y0
  have y1 : W1.cell? adP = some (.int .i64 x):=by
   have e : adP.add (0 : Int).toNat = adP:=by obtain ⟨b,o,n⟩:=adP; cases n <;> simp [Addr.add]
   rw [e] at y0
   exact y0
  cases eP
  have e2 : ((0 : Int) < (pl.length : Int)) = True:=eq_true (by omega)
  have HPX:=Lib.hid (show r = (decide ([x] = [1]) && decide (n = 1)) by rw [← hx]; exact HP.out)
  clear hy hx HP
  by_cases hx1 : x = 1
  ·subst hx1
   by_cases hn1 : n = 1
   ·go_wp2_with fail
    go_ret
    exact ⟨by rw [HPX.out,hn1]; rfl,HB1.out⟩
   ·go_wp2_with fail
    go_ret
    exact ⟨by rw [HPX.out]; simp [hn1],HB1.out⟩
  ·go_wp2_with fail
   go_ret
   exact ⟨by rw [HPX.out]; simp [hx1],HB1.out⟩
 ·have hne : ¬ pl = [1]:=fun h => hl (by rw [h]; rfl)
  have HNE:=Lib.hid hne
  clear hne
  go_wp2_with fail
  go_ret
  exact ⟨by rw [HP.out,decide_eq_false HNE.out]; rfl,HB1.out⟩
attribute [local go_sem] zAP zAQ max_two min_two zAK zAJ zAS zAR
def zAD.l0 : Nat → List ByteArray → ByteArray → Int → Option (Bool)
 | 0,_,_,_ => none
 | k + 1,x0,x1,x5 => if x5 < (x0.length : Int) then (if 0 ≤ x5 then (if (rdOf ByteArray.empty x0 x5).toList = x1.toList then (some true) else (zAD.l0 k x0 x1 (wrap64 (x5 + 1)))) else (none)) else (some false)
def zAD.f (k : Nat) (l0 : List ByteArray) (a1 : ByteArray) : Option (Bool):=zAD.l0 k l0 a1 0
theorem zAD.calls (k : Nat) (A0 : Option Addr) (c0 : Nat) (l0 : List ByteArray) (a1 : ByteArray) (r : Bool) (w : World) (hr0 : Kd.C Kd.string w A0 l0.length l0) (hc0 : l0.length ≤ c0) (h : zAD.f k l0 a1 = some r) :
  Calls Tryz.prog 118 #[.slice A0 l0.length c0,.string a1] w fun e w' => e = .returned (.bool r) ∧ Drawn0 w w':=by
 have HR0:=Aside0.mk hr0
 have HC0:=Aside0.mk hc0
 clear hr0 hc0
 have H : (zAD.l0 k l0 a1 0) = some r:=h
 clear h
 have H':=Aside0.mk H
 clear H
 go_enter Tryz.func118,Tryz.ntmps118
 go_wp2
 go_loopg [5] k (fun kq v5 w' => ∃ (x5_1 : Int),v5 = .int .i64 x5_1 ∧ Aside0 (zAD.l0 kq l0 a1 x5_1 = some r) ∧ Aside0 (kq ≤ k) ∧ Drawn0 w w')
 case atStart => exact ⟨(0),(by first | rfl | (simp; done) | (simp [*]; done)),H',⟨Nat.le_refl _⟩,by repeat (first | exact Drawn0.refl _ | apply Drawn0.step)⟩
 case round =>
  clear H'
  try clear c1
  try clear p2
  obtain ⟨x5_1,rfl,HA,HK1,⟨m1,rfl⟩⟩:=hrel
  cases gk with
  | zero => exact absurd HA.out (by simp [zAD.l0])
  | succ k1 =>
   have H:=HA.out
   clear HA
   simp only [zAD.l0] at H
   by_cases c3 : x5_1 < (l0.length : Int)
   ·rw [if_pos c3] at H
    have c3b0 : decide (x5_1 < (l0.length : Int)) = true:=decide_eq_true c3
    clear c3
    by_cases c4 : 0 ≤ x5_1
    ·rw [if_pos c4] at H
     have c4b0 : decide (0 ≤ x5_1) = true:=decide_eq_true c4
     clear c4
     by_cases c5 : (rdOf ByteArray.empty l0 x5_1).toList = a1.toList
     ·rw [if_pos c5] at H
      have c5b0 : ((rdOf ByteArray.empty l0 x5_1).toList == a1.toList) = true:=beq_iff_eq.mpr c5
      have c5b1 : ((rdOf ByteArray.empty l0 x5_1).toList != a1.toList) = false:=bne_eq_false_iff_eq.mpr c5
      clear c5
      obtain rfl:=Option.some.inj H
      have p331 : 0 ≤ (x5_1 : Int):=of_decide_eq_true (by first | (with_reducible assumption) | assumption)
      have q331 : x5_1 < (l0.length : Int):=of_decide_eq_true (by first | (with_reducible assumption) | assumption)
      obtain ⟨ad331,e331,hx331_0⟩:=Kd.zBM HR0.out x5_1 p331 q331
      cases e331
      replace p331:=eq_true p331
      replace q331:=eq_true q331
      go_wp2
      go_ret
      exact ⟨by first | rfl | (simp; done) | (simp [*]; done),by repeat (first | exact Drawn0.refl _ | apply Drawn0.step)⟩
     ·rw [if_neg c5] at H
      have c5b0 : ((rdOf ByteArray.empty l0 x5_1).toList == a1.toList) = false:=beq_eq_false_iff_ne.mpr c5
      have c5b1 : ((rdOf ByteArray.empty l0 x5_1).toList != a1.toList) = true:=bne_iff_ne.mpr c5
      have H':=Aside0.mk H
      clear H
      have p331 : 0 ≤ (x5_1 : Int):=of_decide_eq_true (by first | (with_reducible assumption) | assumption)
      have q331 : x5_1 < (l0.length : Int):=of_decide_eq_true (by first | (with_reducible assumption) | assumption)
      obtain ⟨ad331,e331,hx331_0⟩:=Kd.zBM HR0.out x5_1 p331 q331
      cases e331
      replace p331:=eq_true p331
      replace q331:=eq_true q331
      go_wp2
      go_roundg k1
      case measure => have:=HK1.out; omega
      case rel => exact ⟨(wrap64 (x5_1 + 1)),(by first | rfl | (simp; done) | (simp [*]; done)),H',⟨by have:=HK1.out; omega⟩,by repeat (first | exact Drawn0.refl _ | apply Drawn0.step)⟩
    ·rw [if_neg c4] at H
     exact absurd H (by simp)
   ·rw [if_neg c3] at H
    have c3b0 : decide (x5_1 < (l0.length : Int)) = false:=decide_eq_false c3
    clear c3
    obtain rfl:=Option.some.inj H
    go_wp2
    go_ret
    exact ⟨by first | rfl | (simp; done) | (simp [*]; done),by repeat (first | exact Drawn0.refl _ | apply Drawn0.step)⟩
end Go.Proofs.YtkhlfdcjgooogaaGreat.P
