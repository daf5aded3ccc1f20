import Derived.Test.YtkhlfdcjgooogaaGreatTyF
import Derived.Test.YtkhlfdcjgooogaaGreatTyR
set_option maxRecDepth 100000
set_option maxHeartbeats 16000000
set_option linter.unusedVariables false
set_option linter.unusedSimpArgs false
namespace Go.Proofs.YtkhlfdcjgooogaaGreat.P
open Go.RowKit Go.Proofs.YtkhlfdcjgooogaaGreatW.PrintWords Go.Proofs.YtkhlfdcjgooogaaGreatW.PrintLast Go.Proofs.YtkhlfdcjgooogaaGreatW.PrintMore
theorem kid_at {A4 : Option Addr} {kl : List Int} {w : World} (hC : Kd.C (Kd.int .i64) w A4 kl.length kl) (i : Nat) (hi : i < kl.length) : ∃ adK,A4 = some adK ∧ w.cell? (adK.add i) = some (.int .i64 kl[i]):=by
 obtain ⟨adK,eK,y0⟩:=Kd.at_int hC (i : Int) (by omega) (by omega)
 have hq : rd kl (i : Int) = kl[i]:=by simp [rd,hi]
 rw [hq,Int.toNat_natCast] at y0
 exact ⟨adK,eK,y0⟩
def begL (f : Int → Int) : List Int → Int → Int
 | [],k => k
 | c :: cs,k => if c = k - 1 ∧ 0 ≤ c then (if f c < 0 then -1 else begL f cs (f c)) else -1
def begF (ns : List S66) : Nat → Int → Int
 | 0,_ => -1
 | n + 1,p => begL (begF ns n) (rd_T66 ns p).f4.reverse p
theorem begL_range (f : Int → Int) (hf : ∀ c,0 ≤ c → -1 ≤ f c ∧ f c ≤ c) : ∀ (cs : List Int) (k : Int),0 ≤ k → -1 ≤ begL f cs k ∧ begL f cs k ≤ k
 | [],k,h => ⟨by rw [begL]; omega,Int.le_refl _⟩
 | c :: cs,k,h => by
  rw [begL]
  split
  ·split
   ·omega
   ·have h1:=hf c (by omega)
    have h2:=begL_range f hf cs (f c) (by omega)
    omega
  ·omega
theorem begF_range (ns : List S66) : ∀ (n : Nat) (p : Int),0 ≤ p → -1 ≤ begF ns n p ∧ begF ns n p ≤ p
 | 0,p,h => ⟨Int.le_refl _,by rw [begF]; omega⟩
 | n + 1,p,h => begL_range _ (begF_range ns n) _ p h
theorem i64_id (x : Int) (h0 : -9223372036854775808 ≤ x) (h1 : x < 9223372036854775808) : IntKind.i64.wrap x = x:=by unfold IntKind.wrap; simp [IntKind.bits,IntKind.signed] <;> omega
theorem begins_is (At : Option Addr) (ct : Nat) (ns : List S66) (hct : ns.length ≤ ct) (hn : ns.length ≤ 4000) (hkl : ∀ x ∈ ns,x.f4.length ≤ 4000) : ∀ (n : Nat) (p : Int),0 ≤ p → p < ns.length → p < n → ∀ w,Kd.C k66 w At ns.length ns →
  Calls Tryz.prog 111 #[.slice At ns.length ct,.int .i64 p] w fun e w' => e = .returned (.int .i64 (begF ns n p)) ∧ Below w.heap.size w w'
 | 0,p,h0,h1,h2,w,_ => by omega
 | n + 1,p,h0,h1,h2,w,hC => by
  have IH:=begins_is At ct ns hct hn hkl n
  obtain ⟨ad,A4,c4,eA,z0,z1,z2,z3,z4,l4,g4⟩:=at_T66 hC p h0 h1
  have hk4:=hkl _ (zAA ns p h0 h1)
  obtain ⟨R,hR⟩ : ∃ R,R = begF ns (n + 1) p:=⟨_,rfl⟩
  rw [← hR]
  rw [begF] at hR
  have hrg:=begF_range ns n
  obtain ⟨f,hf⟩ : ∃ f,f = begF ns n:=⟨_,rfl⟩
  rw [← hf] at hR hrg IH
  obtain ⟨kl,hkl'⟩ : ∃ kl,kl = (rd_T66 ns p).f4:=⟨_,rfl⟩
  rw [← hkl'] at z4 l4 g4 hR hk4
  have HR:=Lib.hid hR
  have HF:=Lib.hid hrg
  have HG:=Lib.hid g4
  have HC:=Lib.hid hC
  have HIH:=Lib.hid IH
  have e0:=eq_true h0
  have e1:=eq_true h1
  have hw:=i64_id ((kl.length : Int) - 1) (by omega) (by omega)
  cases eA
  clear hR hrg g4 hC IH hkl' hf z0 z1 z2 z3 hkl
  go_enter Tryz.func111,Tryz.ntmps111
  go_wp2_with fail
  clear z4 e0 e1 hw
  go_loopg [5,7] (kl.length + 1) (fun kq v5 v7 W => ∃ k i : Int,v5 = .int .i64 k ∧ v7 = .int .i64 i ∧ 0 ≤ k ∧ k ≤ p ∧ -1 ≤ i ∧ i < kl.length ∧ Hid (i + 2 ≤ kq) ∧ Hid (R = begL f (kl.take (i + 1).toNat).reverse k) ∧ Hid (Below w.heap.size w W))
  case atStart => exact ⟨p,_,rfl,rfl,h0,Int.le_refl _,by omega,by omega,Lib.hid (by omega),Lib.hid (by rw [HR.out,show ((kl.length : Int) - 1 + 1).toNat = kl.length by omega,List.take_length]),Lib.hid (Below.refl _ _)⟩
  case round =>
   obtain ⟨k,i,rfl,rfl,k0,k1,i0,i1,HN,HL,HB⟩:=hrel
   by_cases hi : i < 0
   ·obtain rfl : i = -1:=by omega
    have hv:=HL.out
    rw [show ((-1 : Int) + 1).toNat = 0 from rfl,List.take_zero] at hv
    have HV : Hid (R = k):=Lib.hid hv
    clear hv HL
    go_wp2_with fail
    go_ret
    exact ⟨by rw [HV.out]; rfl,HB.out⟩
   ·obtain ⟨j,rfl⟩:=Int.eq_ofNat_of_zero_le (show 0 ≤ i by omega)
    have hj : j < kl.length:=by omega
    obtain ⟨adK,eK,y0⟩:=kid_at (Kd.C_below HG.out HB.out) j hj
    have hv:=HL.out
    rw [show ((j : Int) + 1).toNat = j + 1 by omega,List.take_succ_eq_append_getElem hj,List.reverse_append,List.reverse_singleton,List.singleton_append,begL] at hv
    obtain ⟨c,hc⟩ : ∃ c,c = kl[j]:=⟨_,rfl⟩
    rw [← hc] at y0 hv
    have HV:=Lib.hid hv
    have hw1:=i64_id (k - 1) (by omega) (by omega)
    have hw2:=i64_id ((j : Int) - 1) (by omega) (by omega)
    have e2 : ((0 : Int) ≤ (j : Int)) = True:=eq_true (by omega)
    cases eK
    clear hv hc HL
    by_cases hck : c = k - 1
    ·by_cases hc0 : c < 0
     ·have hv:=HV.out
      rw [if_neg (by omega)] at hv
      have HV2:=Lib.hid hv
      clear hv HV
      subst hck
      go_wp2_with fail
      go_ret
      exact ⟨by rw [HV2.out]; rfl,HB.out⟩
     ·have hv:=HV.out
      rw [if_pos ⟨hck,by omega⟩] at hv
      have HX:=Lib.hid (HIH.out c (by omega) (by omega) (by omega) wr (Kd.C_below HC.out HB.out))
      have hfr:=HF.out c (by omega)
      obtain ⟨v,hvv⟩ : ∃ v,v = f c:=⟨_,rfl⟩
      rw [← hvv] at hv HX hfr
      have HV2:=Lib.hid hv
      have hb1 : (c != k - 1) = false:=by rw [hck]; simp
      clear hv HV hvv
      subst hck
      go_wp2_with fail
      refine HX.out.mono ?_
      rintro e_ W2 ⟨rfl,hb_⟩
      have HB2:=Lib.hid (zAd HB.out hb_)
      clear hb_ y0
      by_cases hv0 : v < 0
      ·have hv:=HV2.out
       rw [if_pos hv0] at hv
       have HV3:=Lib.hid hv
       clear hv HV2
       go_wp2_with fail
       go_ret
       exact ⟨by rw [HV3.out]; rfl,HB2.out⟩
      ·have hv:=HV2.out
       rw [if_neg hv0] at hv
       have HV3:=Lib.hid hv
       clear hv HV2
       go_wp2_with fail
       go_roundg (gk - 1)
       case measure => have:=HN.out; omega
       case rel => exact ⟨v,(j : Int) - 1,rfl,rfl,by omega,by omega,by omega,by omega,Lib.hid (by have:=HN.out; omega),Lib.hid (by rw [HV3.out,show ((j : Int) - 1 + 1).toNat = j by omega]),HB2⟩
    ·have hv:=HV.out
     rw [if_neg (fun h => hck h.1)] at hv
     have HV2:=Lib.hid hv
     have hb1 : (c != k - 1) = true:=by simpa using hck
     clear hv HV
     go_wp2_with fail
     go_ret
     exact ⟨by rw [HV2.out]; rfl,HB.out⟩
set_option linter.unusedSectionVars false
theorem runF_all (p : Int → Bool) : ∀ (L : List Int) (m j : Nat),j < runF p m L → ∃ h : j < L.length,p L[j] = true
 | [],m,j,h => by cases m <;> exact absurd h (Nat.not_lt_zero _)
 | c :: L,0,j,h => absurd h (Nat.not_lt_zero _)
 | c :: L,m + 1,j,h => by
  rw [runF] at h
  split at h
  ·rename_i hc
   cases j with
   | zero => exact ⟨by simp,hc⟩
   | succ j =>
    obtain ⟨h1,h2⟩:=runF_all p L m j (by omega)
    exact ⟨by simpa using h1,by simpa using h2⟩
  ·exact absurd h (Nat.not_lt_zero _)
theorem runF_max (p : Int → Bool) : ∀ (L : List Int) (m : Nat),runF p m L ≤ m
 | [],m => by cases m <;> exact Nat.zero_le _
 | c :: L,0 => Nat.le_refl _
 | c :: L,m + 1 => by
  rw [runF]
  split
  ·have:=runF_max p L m; omega
  ·exact Nat.zero_le _
theorem rn_all (p : Int → Bool) (m : Nat) (L : List Int) (i j : Nat) (h1 : i ≤ j) (h2 : j < i + rn p m L i) : ∃ h : j < L.length,p L[j] = true:=by
 obtain ⟨h3,h4⟩:=runF_all p (L.drop i) m (j - i) (by unfold rn at h2; omega)
 rw [List.length_drop] at h3
 refine ⟨by omega,?_⟩
 rw [List.getElem_drop] at h4
 simpa [show i + (j - i) = j from by omega] using h4
theorem rn_le (p : Int → Bool) (m : Nat) (L : List Int) (i : Nat) : rn p m L i ≤ m:=runF_max p _ m
theorem fin_eq {L : List Int} {i : Nat} (h : fin L i = true) : i = L.length:=by
 unfold fin at h
 have : (i : Int) = (L.length : Int):=by simpa using h
 omega
def AllOk (ns : List S66) : Prop:=ns.all (okN ns) = true
theorem AllOk.at_ {ns : List S66} (h : AllOk ns) {i : Int} (h0 : 0 ≤ i) (h1 : i < ns.length) : 1 ≤ kdOf ns i ∧ kdOf ns i ≤ 27 ∧ textB (kdOf ns i) (rd_T66 ns i).f3 = true ∧ numB (kdOf ns i) (nOf ns i) = true ∧ kidsB (kdOf ns i) (kindsOf ns (rd_T66 ns i).f4) = true:=by
 have:=List.all_eq_true.1 h _ (zAA ns i h0 h1)
 unfold okN nodeOk at this
 simp only [Bool.and_eq_true,decide_eq_true_eq] at this
 exact ⟨this.1,this.2.1,this.2.2.1,this.2.2.2.1,this.2.2.2.2⟩
theorem zCc (ns : List S66) (kl : List Int) (j : Nat) (h : j < kl.length) : (kindsOf ns kl)[j]'(by rw [zBg]; exact h) = kdOf ns kl[j]:=by simp [kindsOf,kdOf]
section
variable {ns : List S66} (hA : AllOk ns) {i : Int} (h0 : 0 ≤ i) (h1 : i < ns.length)
include hA h0 h1
theorem kids_of1 (hk : kdOf ns i = 1) : ∀ k ∈ (rd_T66 ns i).f4,kdOf ns k = 2 ∨ kdOf ns k = 3:=fun k hm => by
 have h:=(hA.at_ h0 h1).2.2.2.2
 rw [hk] at h
 have h : kidsB_1 (kindsOf ns (rd_T66 ns i).f4) = true:=h
 unfold kidsB_1 at h
 have hf:=fin_eq h
 rw [zBg] at hf
 obtain ⟨j,hj,rfl⟩:=List.mem_iff_getElem.1 hm
 rw [← zCc ns _ j hj]
 by_cases hj2 : j < 0 + rn (fun x => x == 2) 4000 (kindsOf ns (rd_T66 ns i).f4) 0
 ·obtain ⟨_,h3⟩:=rn_all _ _ _ 0 j (Nat.zero_le _) hj2
  exact .inl (by simpa using h3)
 ·obtain ⟨_,h3⟩:=rn_all (fun x => x == 3) 4000 (kindsOf ns (rd_T66 ns i).f4) _ j (Nat.not_lt.1 hj2) (by omega)
  exact .inr (by simpa using h3)
theorem kids_leaf (hk : kdOf ns i = 2 ∨ kdOf ns i = 4 ∨ kdOf ns i = 5 ∨ kdOf ns i = 18 ∨ kdOf ns i = 19 ∨ kdOf ns i = 20 ∨ kdOf ns i = 21 ∨ kdOf ns i = 22 ∨ kdOf ns i = 24 ∨ kdOf ns i = 25) : (rd_T66 ns i).f4 = []:=by
 have h:=(hA.at_ h0 h1).2.2.2.2
 have hf : fin (kindsOf ns (rd_T66 ns i).f4) 0 = true:=by
  rcases hk with e | e | e | e | e | e | e | e | e | e <;> rw [e] at h <;> exact h
 have:=fin_eq hf
 rw [zBg] at this
 exact List.eq_nil_of_length_eq_zero this.symm
theorem kids_ex (m : Nat) (h : (((rn exB m (kindsOf ns (rd_T66 ns i).f4) 0 : Nat) : Int) == (m : Int)) = true) (hf : fin (kindsOf ns (rd_T66 ns i).f4) (0 + rn exB m (kindsOf ns (rd_T66 ns i).f4) 0) = true) :
  (rd_T66 ns i).f4.length = m ∧ ∀ k ∈ (rd_T66 ns i).f4,exB (kdOf ns k) = true:=by
 have hm : rn exB m (kindsOf ns (rd_T66 ns i).f4) 0 = m:=by
  have : ((rn exB m (kindsOf ns (rd_T66 ns i).f4) 0 : Nat) : Int) = (m : Int):=by simpa using h
  omega
 have hl:=fin_eq hf
 rw [zBg,hm] at hl
 refine ⟨by omega,fun k hk => ?_⟩
 obtain ⟨j,hj,rfl⟩:=List.mem_iff_getElem.1 hk
 rw [← zCc ns _ j hj]
 exact (rn_all exB m _ 0 j (Nat.zero_le _) (by omega)).2
theorem zCC (hk : kdOf ns i = 7 ∨ kdOf ns i = 15 ∨ kdOf ns i = 17 ∨ kdOf ns i = 23 ∨ kdOf ns i = 26) : (rd_T66 ns i).f4.length = 1 ∧ ∀ k ∈ (rd_T66 ns i).f4,exB (kdOf ns k) = true:=by
 have h:=(hA.at_ h0 h1).2.2.2.2
 have h2 : ((((rn exB 1 (kindsOf ns (rd_T66 ns i).f4) (0) : Nat) : Int) == 1) && fin (kindsOf ns (rd_T66 ns i).f4) (0 + rn exB 1 (kindsOf ns (rd_T66 ns i).f4) (0))) = true:=by
  rcases hk with e | e | e | e | e <;> rw [e] at h <;> exact h
 rw [Bool.and_eq_true] at h2
 exact kids_ex hA h0 h1 1 h2.1 h2.2
theorem zDt (hk : kdOf ns i = 8 ∨ kdOf ns i = 27) : (rd_T66 ns i).f4.length = 2 ∧ ∀ k ∈ (rd_T66 ns i).f4,exB (kdOf ns k) = true:=by
 have h:=(hA.at_ h0 h1).2.2.2.2
 have h2 : ((((rn exB 2 (kindsOf ns (rd_T66 ns i).f4) (0) : Nat) : Int) == 2) && fin (kindsOf ns (rd_T66 ns i).f4) (0 + rn exB 2 (kindsOf ns (rd_T66 ns i).f4) (0))) = true:=by
  rcases hk with e | e <;> rw [e] at h <;> exact h
 rw [Bool.and_eq_true] at h2
 exact kids_ex hA h0 h1 2 h2.1 h2.2
theorem zDa (hk : kdOf ns i = 7 ∨ kdOf ns i = 10 ∨ kdOf ns i = 11 ∨ kdOf ns i = 12 ∨ kdOf ns i = 13) : 0 < (rd_T66 ns i).f4.length:=by
 have h:=(hA.at_ h0 h1).2.2.2.2
 rw [← zBg ns]
 have aux : ∀ (p : Int → Bool) (m i : Nat) (L : List Int),rn p m L i ≤ L.length:=fun p m i L => Nat.le_trans (runF_le _ _ _) (by simp)
 rcases hk with e | e | e | e | e <;> rw [e] at h
 ·have h2 : kidsB_7 (kindsOf ns (rd_T66 ns i).f4) = true:=h
  unfold kidsB_7 at h2
  simp only [Bool.and_eq_true] at h2
  have:=aux exB 1 0 (kindsOf ns (rd_T66 ns i).f4)
  have h3 : ((rn exB 1 (kindsOf ns (rd_T66 ns i).f4) 0 : Nat) : Int) = 1:=by simpa using h2.1
  omega
 ·have h2 : zBh (kindsOf ns (rd_T66 ns i).f4) = true:=h
  unfold zBh at h2
  simp only [Bool.and_eq_true] at h2
  have:=aux (fun x => x == 18) 1 0 (kindsOf ns (rd_T66 ns i).f4)
  have h3 : ((rn (fun x => x == 18) 1 (kindsOf ns (rd_T66 ns i).f4) 0 : Nat) : Int) = 1:=by simpa using h2.1.1
  omega
 ·have h2 : zBj (kindsOf ns (rd_T66 ns i).f4) = true:=h
  unfold zBj at h2
  simp only [Bool.and_eq_true] at h2
  have:=aux exB 1 0 (kindsOf ns (rd_T66 ns i).f4)
  have h3 : ((rn exB 1 (kindsOf ns (rd_T66 ns i).f4) 0 : Nat) : Int) = 1:=by simpa using h2.1.1
  omega
 ·have h2 : zBs (kindsOf ns (rd_T66 ns i).f4) = true:=h
  unfold zBs at h2
  simp only [Bool.and_eq_true] at h2
  have:=aux exB 1 0 (kindsOf ns (rd_T66 ns i).f4)
  have h3 : ((rn exB 1 (kindsOf ns (rd_T66 ns i).f4) 0 : Nat) : Int) = 1:=by simpa using h2.1.1
  omega
 ·have h2 : zBr (kindsOf ns (rd_T66 ns i).f4) = true:=h
  unfold zBr at h2
  simp only [Bool.and_eq_true] at h2
  have:=aux (fun x => x == 19) 1 0 (kindsOf ns (rd_T66 ns i).f4)
  have h3 : ((rn (fun x => x == 19) 1 (kindsOf ns (rd_T66 ns i).f4) 0 : Nat) : Int) = 1:=by simpa using h2.1
  omega
end
structure ParOk (ns : List S66) (ps : List Int) : Prop where
 len : ps.length = ns.length
 up : ∀ j : Nat,j + 1 < ns.length → ∃ i : Nat,KidOf ns j i ∧ rd ps (j : Int) = (i : Int)
 dn : ∀ i (h : i < ns.length),∀ k ∈ ns[i].f4,0 ≤ k ∧ k < (i : Int)
theorem pars_ok (T : RT) (hT : T.size ≤ 4000) : ParOk (RT.flat 0 T) (parsOf (RT.flat 0 T)):=by
 have hfl:=RT.flat_len 0 T
 have hp:=RT.size_pos T
 have dn:=zBH T
 have hg:=zCS (RT.flat 0 T) ((List.replicate (RT.flat 0 T).length (0 : Int)).set ((RT.flat 0 T).length - 1) (-1)) (fun x hx k hk => by
  obtain ⟨i,hi,rfl⟩:=List.mem_iff_getElem.1 hx
  exact (dn i hi k hk).1) (RT.flat 0 T).length 0 _ (by omega) rfl (fun j hj => .inr ⟨fun i' h => absurd h (Nat.not_lt_zero _),rfl⟩)
 rw [List.drop_zero] at hg
 refine ⟨by unfold parsOf; rw [hg.1]; simp,fun j hj => ?_,dn⟩
 rcases hg.2 j (by simp; omega) with ⟨i,_,h2,h3⟩ | ⟨h1,_⟩
 ·exact ⟨i,h2,h3⟩
 ·have hat : AtT (RT.flat 0 T) 0 T:=by unfold AtT; rw [List.drop_zero,← RT.flat_len 0 T,List.take_length]
  obtain ⟨i,hi⟩:=kid_of (RT.flat 0 T) T 0 j hat (Nat.zero_le _) (by omega)
  exact absurd hi (h1 i hi.1)
theorem ParOk.lt {ns : List S66} {ps : List Int} (h : ParOk ns ps) (i : Int) (h0 : 0 ≤ i) (h1 : i < (ns.length : Int) - 1) : i < rd ps i ∧ rd ps i < ns.length:=by
 obtain ⟨j,rfl⟩:=Int.eq_ofNat_of_zero_le h0
 obtain ⟨i,⟨hi,hk⟩,e⟩:=h.up j (by omega)
 have:=h.dn i hi _ hk
 omega
def ownFu (ns : List S66) (ps : List Int) (root : Int) : Nat → Int → Int
 | 0,_ => -1
 | f + 1,i => if kdOf ns i = 3 then i else if i = root then -1 else ownFu ns ps root f (rd ps i)
def ownL (ns : List S66) (ps : List Int) (root : Int) : List Int:=(List.range ns.length).map (fun i : Nat => ownFu ns ps root ns.length (i : Int))
section
variable {ns : List S66} {ps : List Int} (hP : ParOk ns ps)
include hP
theorem own_stay : ∀ (f g : Nat) (i : Int),0 ≤ i → i < ns.length → (ns.length : Int) - i ≤ f → (ns.length : Int) - i ≤ g → ownFu ns ps ((ns.length : Int) - 1) f i = ownFu ns ps ((ns.length : Int) - 1) g i
 | 0,g,i,h0,h1,hf,hg => by omega
 | f + 1,0,i,h0,h1,hf,hg => by omega
 | f + 1,g + 1,i,h0,h1,hf,hg => by
  rw [ownFu,ownFu]
  by_cases h3 : kdOf ns i = 3
  ·rw [if_pos h3,if_pos h3]
  ·rw [if_neg h3,if_neg h3]
   by_cases hr : i = (ns.length : Int) - 1
   ·rw [if_pos hr,if_pos hr]
   ·rw [if_neg hr,if_neg hr]
    have:=hP.lt i h0 (by omega)
    exact own_stay f g _ (by omega) this.2 (by omega) (by omega)
theorem ownL_rd (i : Int) (h0 : 0 ≤ i) (h1 : i < ns.length) : rd (ownL ns ps ((ns.length : Int) - 1)) i = ownFu ns ps ((ns.length : Int) - 1) ns.length i:=by
 obtain ⟨j,rfl⟩:=Int.eq_ofNat_of_zero_le h0
 have : j < ns.length:=by omega
 simp [rd,ownL,this]
theorem own_eq : OwnEq ns ps ((ns.length : Int) - 1) (ownL ns ps ((ns.length : Int) - 1)):=by
 refine ⟨by simp [ownL],fun i h0 h1 => ?_⟩
 rw [ownL_rd hP i h0 h1,own_stay hP ns.length (ns.length + 1) i h0 h1 (by omega) (by omega),ownFu]
 by_cases h3 : kdOf ns i = 3
 ·rw [if_pos h3,if_pos h3]
 ·rw [if_neg h3,if_neg h3]
  by_cases hr : i = (ns.length : Int) - 1
  ·rw [if_pos hr,if_pos hr]
  ·have:=hP.lt i h0 (by omega)
   rw [if_neg hr,if_neg hr,ownL_rd hP _ (by omega) this.2]
theorem own_ok {ol : List Int} (h : OwnEq ns ps ((ns.length : Int) - 1) ol) : OwnOk ns ol:=by
 refine ⟨h.1,?_⟩
 have key : ∀ (f : Nat) (i : Int),0 ≤ i → i < ns.length → (ns.length : Int) - i ≤ f → rd ol i = -1 ∨ (0 ≤ rd ol i ∧ rd ol i < ns.length ∧ kdOf ns (rd ol i) = 3):=by
  intro f
  induction f with
  | zero => intro i h0 h1 hf; omega
  | succ f ih =>
   intro i h0 h1 hf
   rw [h.2 i h0 h1]
   by_cases h3 : kdOf ns i = 3
   ·rw [if_pos h3]
    exact .inr ⟨h0,h1,h3⟩
   ·rw [if_neg h3]
    by_cases hr : i = (ns.length : Int) - 1
    ·rw [if_pos hr]
     exact .inl rfl
    ·have:=hP.lt i h0 (by omega)
     rw [if_neg hr]
     exact ih _ (by omega) this.2 (by omega)
 exact fun i h0 h1 => key ns.length i h0 h1 (by omega)
theorem own_some (hA : AllOk ns) {ol : List Int} (h : OwnEq ns ps ((ns.length : Int) - 1) ol) (hroot : kdOf ns ((ns.length : Int) - 1) = 1) : ∀ i : Int,0 ≤ i → i < ns.length → kdOf ns i ≠ 1 → kdOf ns i ≠ 2 → rd ol i ≠ -1:=by
 have key : ∀ (f : Nat) (i : Int),0 ≤ i → i < ns.length → (ns.length : Int) - i ≤ f → kdOf ns i ≠ 1 → kdOf ns i ≠ 2 → rd ol i ≠ -1:=by
  intro f
  induction f with
  | zero => intro i h0 h1 hf; omega
  | succ f ih =>
   intro i h0 h1 hf k1 k2
   rw [h.2 i h0 h1]
   by_cases h3 : kdOf ns i = 3
   ·rw [if_pos h3]
    omega
   ·rw [if_neg h3]
    by_cases hr : i = (ns.length : Int) - 1
    ·rw [hr] at k1
     exact absurd hroot k1
    ·rw [if_neg hr]
     obtain ⟨j,rfl⟩:=Int.eq_ofNat_of_zero_le h0
     obtain ⟨q,⟨hq,hkq⟩,e⟩:=hP.up j (by omega)
     have hd:=hP.dn q hq _ hkq
     have hkq' : (j : Int) ∈ (rd_T66 ns (q : Int)).f4:=by rw [rdT24 ns q hq]; exact hkq
     rw [e]
     refine ih (q : Int) (by omega) (by omega) (by omega) (fun e1 => ?_) (fun e2 => ?_)
     ·rcases kids_of1 hA (by omega) (by omega) e1 _ hkq' with e | e
      ·exact k2 e
      ·exact h3 e
     ·rw [kids_leaf hA (by omega) (by omega) (.inl e2)] at hkq'
      simp at hkq'
 exact fun i h0 h1 => key ns.length i h0 h1 (by omega)
end
structure Rt (ns : List S66) (root : Int) (ol : List Int) : Prop where
 n0 : 0 < ns.length
 fit : Fit ns
 rt : root = (ns.length : Int) - 1
 ok : AllOk ns
 one : kdOf ns root = 1
 par : ∃ kf ps,zAm.f kf ns root = some ps ∧ ParOk ns ps ∧ OwnEq ns ps root ol
 right : zAE.f ns root = some true ∧ ∃ kf d,zAp.f kf ns root = some d ∧ rightB ns root d = true
theorem Rt.kidsIn {ns : List S66} {root : Int} {ol : List Int} (h : Rt ns root ol) : KidsIn ns:=fun x hx => ⟨(h.fit.2 x hx).1,(h.fit.2 x hx).2.1⟩
theorem Rt.sz {ns : List S66} {root : Int} {ol : List Int} (h : Rt ns root ol) : ∀ x ∈ ns,x.f3.size ≤ 140737488351232:=fun x hx => (h.fit.2 x hx).2.2
theorem Rt.own {ns : List S66} {root : Int} {ol : List Int} (h : Rt ns root ol) : OwnOk ns ol:=by
 obtain ⟨kf,ps,h1,h2,h3⟩:=h.par
 rw [h.rt] at h3
 exact own_ok h2 h3
theorem Rt.some_ {ns : List S66} {root : Int} {ol : List Int} (h : Rt ns root ol) : ∀ i : Int,0 ≤ i → i < ns.length → kdOf ns i ≠ 1 → kdOf ns i ≠ 2 → rd ol i ≠ -1:=by
 obtain ⟨kf,ps,h1,h2,h3⟩:=h.par
 have ho:=h.one
 rw [h.rt] at h3 ho
 exact own_some h2 h.ok h3 ho
theorem Rt.pre {ns : List S66} {root : Int} {ol : List Int} (h : Rt ns root ol) (i : Int) (h0 : 0 ≤ i) (h1 : i < ns.length) : PreN ns ol i :=
 ⟨zDa h.ok h0 h1,fun hk => h.some_ i h0 h1 (by omega) (by omega),(h.ok.at_ h0 h1).1,(h.ok.at_ h0 h1).2.1⟩
def rtB (ns : List S66) (root : Int) (b : Bool) : Prop:=(zAE.f ns root = some false ∧ b = false) ∨ (Fit ns ∧ 0 < ns.length ∧ root = (ns.length : Int) - 1 ∧ zAE.f ns root = some true ∧ ∃ kf d,zAp.f kf ns root = some d ∧ b = rightB ns root d)
theorem rt_cases (ns : List S66) (root : Int) (hk : ∀ x ∈ ns,x.f3.size ≤ 140737488351232) : rtB ns root false ∨ (rtB ns root true ∧ ∃ ol,Rt ns root ol):=by
 rcases zBo ns root with h | ⟨T,rfl,hT,rfl⟩
 ·exact .inl (.inl ⟨h,rfl⟩)
 ·have hfl:=RT.flat_len 0 T
  have hp:=RT.size_pos T
  have hF:=fit_flat T hT hk
  have hs:=zCi T hT
  obtain ⟨kf,hd⟩:=(depth_ev T hT).rounds
  have hr : ((T.size : Int) - 1) = ((RT.flat 0 T).length : Int) - 1:=by rw [hfl]
  cases hb : rightB (RT.flat 0 T) ((T.size : Int) - 1) (T.depth : Int) with
  | false => exact .inl (.inr ⟨hF,by omega,hr,hs,kf,_,hd,hb.symm⟩)
  | true =>
   refine .inr ⟨.inr ⟨hF,by omega,hr,hs,kf,_,hd,hb.symm⟩,?_⟩
   obtain ⟨kp,hpar⟩:=(pars_ev T hT).rounds
   have hPO:=pars_ok T hT
   have hb2:=hb
   unfold rightB at hb2
   simp only [Bool.and_eq_true] at hb2
   have he:=own_eq hPO
   rw [← hr] at he
   exact ⟨_,by omega,hF,hr,hb2.2,by have:=hb2.1.2; simpa [kdOf] using this,⟨kp,_,hpar,hPO,he⟩,hs,kf,_,hd,hb⟩
end Go.Proofs.YtkhlfdcjgooogaaGreat.P
