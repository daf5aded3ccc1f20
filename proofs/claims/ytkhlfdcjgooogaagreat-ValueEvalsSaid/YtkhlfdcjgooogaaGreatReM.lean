import Derived.Test.YtkhlfdcjgooogaaGreatWMore
import Derived.Test.YtkhlfdcjgooogaaGreatReI
import Derived.Test.YtkhlfdcjgooogaaGreatReK
import Derived.Test.YtkhlfdcjgooogaaGreatPf84
set_option maxRecDepth 100000
set_option maxHeartbeats 16000000
set_option linter.unusedVariables false
set_option linter.unusedSimpArgs false
set_option linter.unusedSectionVars false
namespace Go.Proofs.YtkhlfdcjgooogaaGreat.P
open Go.RowKit Go.Proofs.YtkhlfdcjgooogaaGreatW.PrintWords Go.Proofs.YtkhlfdcjgooogaaGreatW.PrintLast Go.Proofs.YtkhlfdcjgooogaaGreatW.PrintMore
def wrR (ns : List S66) (ol : List Int) (q : Int) : Int :=
 if kdOf ns q = 7 then namedF ns ol q (exprF ns ol (rd (rd_T66 ns q).f4 0) == 0 || kindF ns ol q (nmOf ns q) == exprF ns ol (rd (rd_T66 ns q).f4 0)) else checkF ns ol q
theorem zBJ (b : Bool) (w : World) : Calls Tryz.prog 84 #[.bool b] w fun e w' => ∃ v : Int,e = .returned (.int .i64 v) ∧ Hid (v = if b = true then 0 else 5) ∧ Below w.heap.size w w' :=
 (zBD.calls b (if b = true then 0 else 5) w (by cases b <;> rfl)).mono (fun _ _ ⟨h1,h2⟩ => ⟨_,h1,Lib.hid rfl,h2.below⟩)
section
variable {ns : List S66} (hA : AllOk ns) {i : Int} (h0 : 0 ≤ i) (h1 : i < ns.length)
include hA h0 h1
theorem kidn_10 (hk : kdOf ns i = 10) : (rd_T66 ns i).f4.length = 2:=by
 have h:=(hA.at_ h0 h1).2.2.2.2
 rw [hk] at h
 have h2 : zBh (kindsOf ns (rd_T66 ns i).f4) = true:=h
 unfold zBh at h2
 simp only [Bool.and_eq_true] at h2
 have hf:=fin_eq h2.2
 rw [zBg] at hf
 have a1 : ((rn (fun x => x == 18) 1 (kindsOf ns (rd_T66 ns i).f4) 0 : Nat) : Int) = 1:=by simpa using h2.1.1
 have a2 : ((rn exB 1 (kindsOf ns (rd_T66 ns i).f4) (0 + rn (fun x => x == 18) 1 (kindsOf ns (rd_T66 ns i).f4) 0) : Nat) : Int) = 1:=by simpa using h2.1.2
 omega
theorem kidn_14 (hk : kdOf ns i = 14) : (rd_T66 ns i).f4.length ≤ 1:=by
 have h:=(hA.at_ h0 h1).2.2.2.2
 rw [hk] at h
 have h2 : zBz (kindsOf ns (rd_T66 ns i).f4) = true:=h
 unfold zBz at h2
 have hf:=fin_eq h2
 rw [zBg] at hf
 have:=rn_le exB 1 (kindsOf ns (rd_T66 ns i).f4) 0
 omega
theorem sign_26 (hk : kdOf ns i = 26) : eqB (nmOf ns i) = false:=by
 have h:=(hA.at_ h0 h1).2.2.1
 rw [hk] at h
 have h2 : ((rd_T66 ns i).f3.toList == [45] || (rd_T66 ns i).f3.toList == [33]) = true:=h
 unfold nmOf eqB
 rw [← zAI]
 rcases Bool.or_eq_true_iff.1 h2 with e | e <;> (rw [eq_of_beq e]; rfl)
end
theorem rwrong_is (At : Option Addr) (ct : Nat) (ns : List S66) (root : Int) (ol ps : List Int) (q : Int) (h0 : 0 ≤ q) (h1 : q < ns.length) (w : World) (hW : RW At ct ns root ol ps w) :
  Calls Tryz.prog 43 #[.agg #[.slice At ns.length ct,.int .i64 root],.int .i64 q] w fun e w' => e = .returned (.int .i64 (wrR ns ol q)) ∧ Below w.heap.size w w':=by
 obtain ⟨ad,A4,c4,k,n,at_,tx,kl,W1,rfl,hx0,cb,z0,z1,z2,z3,z4,hW1,hb1,x1,n1,hCk,hkl⟩:=zCx (ct:=ct) (root:=root) hW.hC h0 h1
 have hmem:=zAA ns q h0 h1
 have hkn:=(hW.hR.fit.2 _ hmem).1
 have hkl4:=(hW.hR.fit.2 _ hmem).2.1
 have hk0 : kdOf ns q = k:=by unfold kdOf; rw [hx0]
 have ht0 : nmOf ns q = tx.data.toList:=by unfold nmOf; rw [hx0]
 rw [hx0] at hkn hkl4
 dsimp only at hkn hkl4
 have HB1:=Lib.hid hb1
 have X1:=Lib.hid x1
 have N1:=Lib.hid n1
 have HW1:=Lib.hid hW1
 have HW:=Lib.hid hW
 have HCK:=Lib.hid hCk
 have HCH : Hid (wrR ns ol q = wrR ns ol q):=Lib.hid rfl
 have e0:=eq_true h0
 have e1:=eq_true h1
 have c10:=bc_ X1.out 0
 have c11:=bc_ X1.out 1
 have n10:=bc_ N1.out 0
 have n13:=bc_ N1.out 3
 have n14:=bc_ N1.out 4
 rw [HW1.out] at c10 c11 n10 n13 n14
 have hlo:=(hW.hR.ok.at_ h0 h1).1
 have hhi:=(hW.hR.ok.at_ h0 h1).2.1
 rw [hk0] at hlo hhi
 have HKN:=Lib.hid hkn
 have HTY:=Lib.hid (fun (p : Int) (p0 : 0 ≤ p) (p1 : p < ns.length) (W : World) (hb : Below w.heap.size w W) => zCE (some ad) ct ns root ol ps p p0 p1 W (hW.below hb))
 have HNM:=Lib.hid (fun (a b : Int) (W : World) (hb : Below w.heap.size w W) => rnamed_is (some ad) ct ns root ol ps q a b h0 h1 W (hW.below hb))
 rw [ht0,hx0] at HNM
 dsimp only at HNM
 have hmain : (k = 2 ∨ k = 3 ∨ k = 4 ∨ k = 5) ∨ (k = 22) ∨ (k = 8 ∨ k = 17 ∨ k = 23) ∨ (k = 24) ∨ (k = 9 ∨ k = 16) ∨ (k = 25) ∨ (k = 26 ∨ k = 27) ∨ (k = 7) ∨ (k = 10) ∨ (k = 15) ∨ (k = 11 ∨ k = 12) ∨ (k = 13) ∨ (k = 14) ∨ (k = 1 ∨ k = 6 ∨ k = 18 ∨ k = 19 ∨ k = 20 ∨ k = 21):=by omega
 obtain ⟨r,hr⟩ : ∃ r,r = wrR ns ol q:=⟨_,rfl⟩
 have hrr:=hr
 rw [← hr]
 unfold wrR checkF at hr
 rw [ht0,hx0] at hr
 dsimp only at hr
 clear hb1 x1 n1 hW1
 rcases hmain with hk | hk | hk | hk | hk | hk | hk | hk | hk | hk | hk | hk | hk | hk
 ·have hv : r = if twR ns root ol q = true then 4 else 0:=by
   rcases hk with rfl | rfl | rfl | rfl
   ·rw [hr,hk0,← tw_2 hW.hR q h0 h1 hk0,ht0]; rfl
   ·rw [hr,hk0,← tw_3 hW.hR q h0 h1 hk0,ht0]; rfl
   ·rw [hr,hk0,← tw_45 hW.hR q h0 h1 (.inl hk0),ht0]; rfl
   ·rw [hr,hk0,← tw_45 hW.hR q h0 h1 (.inr hk0),ht0]; rfl
  have HTW:=Lib.hid (rtwice_is (some ad) ct ns root ol ps q h0 h1 (by rw [hk0]; exact hk) W1 (hW.below HB1.out))
  obtain ⟨tw,htw⟩ : ∃ tw,tw = twR ns root ol q:=⟨_,rfl⟩
  rw [← htw] at hv HTW
  have HV:=Lib.hid hv
  clear htw hv hr
  clear hW hx0 hmem hkn hkl4 hk0 ht0 hCk hrr
  rcases hk with rfl | rfl | rfl | rfl <;> (
   go_enter Tryz.func43,Tryz.ntmps43
   go_wp2_with fail
   rw [← HW1.out]
   refine HTW.out.mono ?_
   rintro e_ W2 ⟨rfl,hb_⟩
   have HB2:=Lib.hid (zAd HB1.out hb_)
   clear hb_ HTW
   cases tw <;> (
    go_wp2_with fail
    go_ret
    exact ⟨by rw [HV.out]; rfl,HB2.out⟩))
 ·have HV : Hid (r = namedF ns ol q (((0 : Int) == 0 || kindF ns ol q tx.data.toList == (0 : Int)) && ((0 : Int) == 0 || allF ns ol (0 : Int) kl))):=Lib.hid (by
   subst hk; rw [hr,hk0]; rfl)
  have HN:=Lib.hid (HNM.out (0 : Int) (0 : Int))
  obtain ⟨nv,hnv⟩ : ∃ nv,nv = namedF ns ol q (((0 : Int) == 0 || kindF ns ol q tx.data.toList == (0 : Int)) && ((0 : Int) == 0 || allF ns ol (0 : Int) kl)):=⟨_,rfl⟩
  rw [← hnv] at HV HN
  clear hnv hr
  clear hW hx0 hmem hkn hkl4 hk0 ht0 hCk hrr
  subst hk
  go_enter Tryz.func43,Tryz.ntmps43
  go_wp2_with fail
  rw [← HW1.out]
  refine (HN.out W1 HB1.out).mono ?_
  rintro e_ W2 ⟨rfl,hb_⟩
  have HB2:=Lib.hid (zAd HB1.out hb_)
  clear hb_
  go_wp2_with fail
  go_ret
  exact ⟨by rw [HV.out]; rfl,HB2.out⟩
 ·have HV : Hid (r = namedF ns ol q (((3 : Int) == 0 || kindF ns ol q tx.data.toList == (3 : Int)) && ((1 : Int) == 0 || allF ns ol (1 : Int) kl))):=Lib.hid (by
   rcases hk with rfl | rfl | rfl <;> (rw [hr,hk0]; rfl))
  have HN:=Lib.hid (HNM.out (3 : Int) (1 : Int))
  obtain ⟨nv,hnv⟩ : ∃ nv,nv = namedF ns ol q (((3 : Int) == 0 || kindF ns ol q tx.data.toList == (3 : Int)) && ((1 : Int) == 0 || allF ns ol (1 : Int) kl)):=⟨_,rfl⟩
  rw [← hnv] at HV HN
  clear hnv hr
  clear hW hx0 hmem hkn hkl4 hk0 ht0 hCk hrr
  rcases hk with rfl | rfl | rfl <;> (
   go_enter Tryz.func43,Tryz.ntmps43
   go_wp2_with fail
   rw [← HW1.out]
   refine (HN.out W1 HB1.out).mono ?_
   rintro e_ W2 ⟨rfl,hb_⟩
   have HB2:=Lib.hid (zAd HB1.out hb_)
   clear hb_
   go_wp2_with fail
   go_ret
   exact ⟨by rw [HV.out]; rfl,HB2.out⟩)
 ·have HV : Hid (r = namedF ns ol q (((3 : Int) == 0 || kindF ns ol q tx.data.toList == (3 : Int)) && ((0 : Int) == 0 || allF ns ol (0 : Int) kl))):=Lib.hid (by
   subst hk; rw [hr,hk0]; (rw [show ((0 : Int) == 0) = true from rfl,Bool.true_or,Bool.and_true]; rfl))
  have HN:=Lib.hid (HNM.out (3 : Int) (0 : Int))
  obtain ⟨nv,hnv⟩ : ∃ nv,nv = namedF ns ol q (((3 : Int) == 0 || kindF ns ol q tx.data.toList == (3 : Int)) && ((0 : Int) == 0 || allF ns ol (0 : Int) kl)):=⟨_,rfl⟩
  rw [← hnv] at HV HN
  clear hnv hr
  clear hW hx0 hmem hkn hkl4 hk0 ht0 hCk hrr
  subst hk
  go_enter Tryz.func43,Tryz.ntmps43
  go_wp2_with fail
  rw [← HW1.out]
  refine (HN.out W1 HB1.out).mono ?_
  rintro e_ W2 ⟨rfl,hb_⟩
  have HB2:=Lib.hid (zAd HB1.out hb_)
  clear hb_
  go_wp2_with fail
  go_ret
  exact ⟨by rw [HV.out]; rfl,HB2.out⟩
 ·have HV : Hid (r = namedF ns ol q (((1 : Int) == 0 || kindF ns ol q tx.data.toList == (1 : Int)) && ((0 : Int) == 0 || allF ns ol (0 : Int) kl))):=Lib.hid (by
   rcases hk with rfl | rfl <;> (rw [hr,hk0]; (rw [show ((0 : Int) == 0) = true from rfl,Bool.true_or,Bool.and_true]; rfl)))
  have HN:=Lib.hid (HNM.out (1 : Int) (0 : Int))
  obtain ⟨nv,hnv⟩ : ∃ nv,nv = namedF ns ol q (((1 : Int) == 0 || kindF ns ol q tx.data.toList == (1 : Int)) && ((0 : Int) == 0 || allF ns ol (0 : Int) kl)):=⟨_,rfl⟩
  rw [← hnv] at HV HN
  clear hnv hr
  clear hW hx0 hmem hkn hkl4 hk0 ht0 hCk hrr
  rcases hk with rfl | rfl <;> (
   go_enter Tryz.func43,Tryz.ntmps43
   go_wp2_with fail
   rw [← HW1.out]
   refine (HN.out W1 HB1.out).mono ?_
   rintro e_ W2 ⟨rfl,hb_⟩
   have HB2:=Lib.hid (zAd HB1.out hb_)
   clear hb_
   go_wp2_with fail
   go_ret
   exact ⟨by rw [HV.out]; rfl,HB2.out⟩)
 ·subst hk
  have HV : Hid (r = if procF ns tx.data.toList = -1 then 3 else if plainF ns (procF ns tx.data.toList) = true then 0 else 5):=Lib.hid (by rw [hr,hk0]; rfl)
  have hrt:=rt_in hW.hR
  have HP:=Lib.hid (fun (W : World) (hb : Below w.heap.size w W) => of_is (some ad) ct ns root root hrt.1 hrt.2 hW.hR.kidsIn 3 3 tx W (hW.below hb).hC hW.hct)
  rw [of_pr hW.hR] at HP
  have HPL:=Lib.hid (fun (p : Int) (p0 : 0 ≤ p) (p1 : p < ns.length) (W : World) (hb : Below w.heap.size w W) => rplain_is (some ad) ct ns root p p0 p1 hW.hR.kidsIn W (hW.below hb).hC hW.hct)
  have hpr:=zBd ns tx.data.toList
  obtain ⟨pp,hpp⟩ : ∃ pp,pp = procF ns tx.data.toList:=⟨_,rfl⟩
  rw [← hpp] at HV HP hpr
  clear hpp hr hrt
  clear hW hx0 hmem hkn hkl4 hk0 ht0 hCk hrr
  go_enter Tryz.func43,Tryz.ntmps43
  go_wp2_with fail
  rw [← HW1.out]
  refine (HP.out W1 HB1.out).mono ?_
  rintro e_ W2 ⟨rfl,hb_⟩
  have HB2:=Lib.hid (zAd HB1.out hb_)
  have X2:=Lib.hid (zAe X1.out hb_)
  clear hb_ c10 c11 n10 n13 n14
  by_cases hpm : pp = -1
  ·subst hpm
   go_wp2_with fail
   go_ret
   exact ⟨by rw [HV.out]; first | rfl | simp [*],HB2.out⟩
  ·have hin:=hpr.resolve_left hpm
   have hno : ¬ pp < 0:=by omega
   have HL:=Lib.hid (HPL.out pp hin.1 hin.2)
   have h:=HV.out
   rw [if_neg hpm] at h
   obtain ⟨pb,hpb⟩ : ∃ pb,pb = plainF ns pp:=⟨_,rfl⟩
   rw [← hpb] at h HL
   have HV:=Lib.hid h
   clear h hpb hin HPL
   have c0:=bc_ X2.out 0
   have c1:=bc_ X2.out 1
   go_wp2_with fail
   refine (HL.out W2 HB2.out).mono ?_
   rintro e_ W3 ⟨rfl,hb_⟩
   have HB3:=Lib.hid (zAd HB2.out hb_)
   clear hb_
   go_wp2_with fail
   refine (zBJ pb _).mono ?_
   rintro e_ W4 ⟨tv,rfl,HTV,hb_⟩
   have HB4:=Lib.hid (zAd HB3.out hb_)
   clear hb_
   go_wp2_with fail
   go_ret
   exact ⟨by rw [HV.out,← HTV.out]; rfl,HB4.out⟩
 ·have hop : eqB tx.data.toList = true → kl.length = 2:=fun h => by
   rcases hk with rfl | rfl
   ·have:=sign_26 hW.hR.ok h0 h1 hk0; rw [ht0,h] at this; cases this
   ·have:=(zDt hW.hR.ok h0 h1 (.inr hk0)).1; rw [hx0] at this; exact this
  have HV : Hid (r = if oprR ns ol tx.data.toList kl = true then 0 else 5):=Lib.hid (by rw [opr_eq _ _ _ _ hop]; rcases hk with rfl | rfl <;> (rw [hr,hk0]; rfl))
  have HO:=Lib.hid (fun (W : World) (hb : Below w.heap.size w W) => roperator_is (some ad) ct ns root ol ps k n at_ tx A4 c4 kl hkn hkl4 hop W (hW.below hb) (Kd.C_below hCk hb) hkl)
  obtain ⟨ob,hob⟩ : ∃ ob,ob = oprR ns ol tx.data.toList kl:=⟨_,rfl⟩
  rw [← hob] at HV HO
  have n11:=bc_ N1.out 1
  have n12:=bc_ N1.out 2
  rw [HW1.out] at n11 n12
  clear hob hr hop
  clear hW hx0 hmem hkn hkl4 hk0 ht0 hCk hrr
  rcases hk with rfl | rfl <;> (
   go_enter Tryz.func43,Tryz.ntmps43
   go_wp2_with fail
   rw [← HW1.out]
   refine (HO.out W1 HB1.out).mono ?_
   rintro e_ W2 ⟨rfl,hb_⟩
   have HB2:=Lib.hid (zAd HB1.out hb_)
   clear hb_
   go_wp2_with fail
   refine (zBJ ob _).mono ?_
   rintro e_ W3 ⟨tv,rfl,HTV,hb_⟩
   have HB3:=Lib.hid (zAd HB2.out hb_)
   clear hb_
   go_wp2_with fail
   go_ret
   exact ⟨by rw [HV.out,← HTV.out]; rfl,HB3.out⟩)
 ·subst hk
  have hl0 : 0 < kl.length:=by have:=(zCC hW.hR.ok h0 h1 (.inl hk0)).1; rw [hx0] at this; dsimp only at this; omega
  obtain ⟨adK,eK,y0⟩:=kid_pre (ns:=ns) (Kd.C_below hCk HB1.out) 0 hl0
  have hvj : rd kl 0 = kl[0]:=by simp [rd,hl0]
  have hinj:=hkn _ (List.getElem_mem hl0)
  have HV : Hid (r = namedF ns ol q (exprF ns ol kl[0] == 0 || kindF ns ol q tx.data.toList == exprF ns ol kl[0])):=Lib.hid (by rw [hr,hk0,← hvj]; rfl)
  have HT:=Lib.hid (HTY.out _ hinj.1 hinj.2)
  obtain ⟨v,hv⟩ : ∃ v,v = kl[0]:=⟨_,rfl⟩
  rw [← hv] at y0 HV HT
  obtain ⟨te,hte⟩ : ∃ te,te = exprF ns ol v:=⟨_,rfl⟩
  rw [← hte] at HV HT
  have HN:=Lib.hid (HNM.out te 0)
  rw [show ((0 : Int) == 0) = true from rfl,Bool.true_or,Bool.and_true] at HN
  obtain ⟨nv,hnv⟩ : ∃ nv,nv = namedF ns ol q (te == 0 || kindF ns ol q tx.data.toList == te):=⟨_,rfl⟩
  rw [← hnv] at HV HN
  have ij : (0 < kl.length) = True:=eq_true hl0
  clear hte hv hinj hvj hr HNM HKN hnv
  clear hW hx0 hmem hkn hkl4 hk0 ht0 hCk hrr
  cases eK
  rw [zCd] at y0
  go_enter Tryz.func43,Tryz.ntmps43
  go_wp2_with fail
  rw [← HW1.out] at c10 c11 n14 ⊢
  refine start_ (n:=10) (S:=fun w' => w'.cell? ⟨w.heap.size,0,none⟩ = some (.slice (some ad) ns.length ct) ∧ w'.cell? ⟨w.heap.size,1,none⟩ = some (.int .i64 root) ∧ w'.cell? ⟨w.heap.size + 1,4,none⟩ = some (.slice (some adK) kl.length c4) ∧ w'.cell? adK = some (.int .i64 v)) (ds:=[]) #[false,false,false,false,false,false,false,false,false,false] (by kernel_rfl) rfl rfl ⟨zAg c10,zAg c11,zAg n14,zAg y0⟩ (fun hHeld => ?_)
  refine pu_ 1 70 ?_
  refine pu_ 3 72 ?_
  refine ta_ 0 69 hHeld ?_
  refine ta_ 2 71 hHeld ?_
  refine ta_ 4 73 hHeld ?_
  refine pu_ 5 74 ?_
  refine ta_ 6 75 hHeld ?_
  refine on_ 7 (some 76) (fun K hK => ?_)
  refine gs_ Tryz.func87 #[.agg #[.slice (some ad) ns.length ct,.int .i64 root],.int .i64 v] ?_
  with_reducible refine (HT.out W1.drew (zAk HB1.out)).mono ?_
  rintro e_ w6 ⟨rfl,hb_⟩
  refine ⟨_,rfl,?_⟩
  have HB6:=Lib.hid (zAd (zAk HB1.out) hb_)
  have x60:=zAb hb_ (zAg c10)
  have x61:=zAb hb_ (zAg c11)
  have x62:=zAb hb_ (zAg n14)
  have x63:=zAb hb_ (zAg y0)
  clear hb_
  refine hK.out _ _ ⟨x60,x61,x62,x63⟩ (fun hHeld => ?_)
  clear hK K
  refine no_ ?_
  refine on_ 8 (some 77) (fun K hK => ?_)
  refine gs_ Tryz.func83 #[.agg #[.slice (some ad) ns.length ct,.int .i64 root],.int .i64 q,.int .i64 te,.int .i64 0] ?_
  with_reducible refine (HN.out w6 HB6.out).mono ?_
  rintro e_ w7 ⟨rfl,hb_⟩
  refine ⟨_,rfl,?_⟩
  have HB7:=Lib.hid (zAd HB6.out hb_)
  have x70:=zAb hb_ x60
  have x71:=zAb hb_ x61
  have x72:=zAb hb_ x62
  have x73:=zAb hb_ x63
  clear hb_
  refine hK.out _ _ ⟨x70,x71,x72,x73⟩ (fun hHeld => ?_)
  clear hK K
  refine no_ ?_
  refine pu_ 9 4 ?_
  refine done_ (by kernel_rfl) ?_
  go_wp2_with fail
  go_ret
  exact ⟨by rw [HV.out]; rfl,HB7.out⟩
 ·have hkl2 : kl.length = 2:=by have:=kidn_10 hW.hR.ok h0 h1 (by rw [hk0,hk]); rw [hx0] at this; exact this
  have hl1 : 1 < kl.length:=by omega
  obtain ⟨adK,eK,y0⟩:=kid_pre (ns:=ns) (Kd.C_below hCk HB1.out) 1 hl1
  have hvj : rd kl 1 = kl[1]:=by simp [rd,hl1]
  have hinj:=hkn _ (List.getElem_mem hl1)
  have HV : Hid (r = if (exprF ns ol kl[1] == 1) = true then 0 else 5):=Lib.hid (by subst hk; rw [hr,hk0]; match kl,hkl2 with | [a,b],_ => show (if ((exprF ns ol b == 1) && true) = true then _ else _) = _; rw [Bool.and_true]; rfl)
  have HT:=Lib.hid (HTY.out _ hinj.1 hinj.2)
  obtain ⟨v,hv⟩ : ∃ v,v = kl[1]:=⟨_,rfl⟩
  rw [← hv] at y0 HV HT
  obtain ⟨te,hte⟩ : ∃ te,te = exprF ns ol v:=⟨_,rfl⟩
  rw [← hte] at HV HT
  have ij : ((1 : Int) < (kl.length : Int)) = True:=eq_true (by omega)
  clear hte hv hinj hvj hr HNM HKN
  clear hW hx0 hmem hkn hkl4 hk0 ht0 hCk hrr
  cases eK
  clear hkl2
  have y0 : W1.cell? ⟨adK.block,adK.off + 1,none⟩ = some (.int .i64 v):=y0
  rcases hk with rfl <;> (
   go_enter Tryz.func43,Tryz.ntmps43
   go_wp2_with fail
   rw [← HW1.out] at c10 c11 n14 ⊢
   refine start_ (n:=9) (S:=fun w' => w'.cell? ⟨w.heap.size,0,none⟩ = some (.slice (some ad) ns.length ct) ∧ w'.cell? ⟨w.heap.size,1,none⟩ = some (.int .i64 root) ∧ w'.cell? ⟨w.heap.size + 1,4,none⟩ = some (.slice (some adK) kl.length c4) ∧ w'.cell? ⟨adK.block,adK.off + 1,none⟩ = some (.int .i64 v)) (ds:=[]) #[false,false,false,false,false,false,false,false,false] (by kernel_rfl) rfl rfl ⟨zAg c10,zAg c11,zAg n14,zAg y0⟩ (fun hHeld => ?_)
   refine pu_ 1 81 ?_
   refine ta_ 0 80 hHeld ?_
   refine ta_ 2 82 hHeld ?_
   refine pu_ 3 83 ?_
   refine ta_ 4 84 hHeld ?_
   refine on_ 5 (some 85) (fun K hK => ?_)
   refine gs_ Tryz.func87 #[.agg #[.slice (some ad) ns.length ct,.int .i64 root],.int .i64 v] ?_
   with_reducible refine (HT.out W1.drew (zAk HB1.out)).mono ?_
   rintro e_ w6 ⟨rfl,hb_⟩
   refine ⟨_,rfl,?_⟩
   have HB6:=Lib.hid (zAd (zAk HB1.out) hb_)
   have x60:=zAb hb_ (zAg c10)
   have x61:=zAb hb_ (zAg c11)
   have x62:=zAb hb_ (zAg n14)
   have x63:=zAb hb_ (zAg y0)
   clear hb_
   refine hK.out _ _ ⟨x60,x61,x62,x63⟩ (fun hHeld => ?_)
   clear hK K
   refine no_ ?_
   refine pu_ 6 86 ?_
   refine on_ 7 (some 87) (fun K hK => ?_)
   refine gs_ Tryz.func84 #[.bool (te == 1)] ?_
   with_reducible refine (zBJ (te == 1) w6).mono ?_
   rintro e_ w7 ⟨tv,rfl,HTV,hb_⟩
   refine ⟨_,rfl,?_⟩
   have HB7:=Lib.hid (zAd HB6.out hb_)
   have x70:=zAb hb_ x60
   have x71:=zAb hb_ x61
   have x72:=zAb hb_ x62
   have x73:=zAb hb_ x63
   clear hb_
   refine hK.out _ _ ⟨x70,x71,x72,x73⟩ (fun hHeld => ?_)
   clear hK K
   refine no_ ?_
   refine pu_ 8 4 ?_
   refine done_ (by kernel_rfl) ?_
   go_wp2_with fail
   go_ret
   exact ⟨by rw [HV.out,← HTV.out]; rfl,HB7.out⟩)
 ·have hkl2 : kl.length = 1:=by have:=(zCC hW.hR.ok h0 h1 (by rw [hk0,hk]; decide)).1; rw [hx0] at this; exact this
  have hl0 : 0 < kl.length:=by omega
  obtain ⟨adK,eK,y0⟩:=kid_pre (ns:=ns) (Kd.C_below hCk HB1.out) 0 hl0
  have hvj : rd kl 0 = kl[0]:=by simp [rd,hl0]
  have hinj:=hkn _ (List.getElem_mem hl0)
  have HV : Hid (r = if (exprF ns ol kl[0] == 1) = true then 0 else 5):=Lib.hid (by subst hk; rw [hr,hk0]; match kl,hkl2 with | [a],_ => show (if ((exprF ns ol a == 1) && true) = true then _ else _) = _; rw [Bool.and_true]; rfl)
  have HT:=Lib.hid (HTY.out _ hinj.1 hinj.2)
  obtain ⟨v,hv⟩ : ∃ v,v = kl[0]:=⟨_,rfl⟩
  rw [← hv] at y0 HV HT
  obtain ⟨te,hte⟩ : ∃ te,te = exprF ns ol v:=⟨_,rfl⟩
  rw [← hte] at HV HT
  have ij : (0 < kl.length) = True:=eq_true hl0
  clear hte hv hinj hvj hr HNM HKN
  clear hW hx0 hmem hkn hkl4 hk0 ht0 hCk hrr
  cases eK
  clear hkl2
  rw [zCd] at y0
  rcases hk with rfl <;> (
   go_enter Tryz.func43,Tryz.ntmps43
   go_wp2_with fail
   rw [← HW1.out] at c10 c11 n14 ⊢
   refine start_ (n:=9) (S:=fun w' => w'.cell? ⟨w.heap.size,0,none⟩ = some (.slice (some ad) ns.length ct) ∧ w'.cell? ⟨w.heap.size,1,none⟩ = some (.int .i64 root) ∧ w'.cell? ⟨w.heap.size + 1,4,none⟩ = some (.slice (some adK) kl.length c4) ∧ w'.cell? adK = some (.int .i64 v)) (ds:=[]) #[false,false,false,false,false,false,false,false,false] (by kernel_rfl) rfl rfl ⟨zAg c10,zAg c11,zAg n14,zAg y0⟩ (fun hHeld => ?_)
   refine pu_ 1 91 ?_
   refine ta_ 0 90 hHeld ?_
   refine ta_ 2 92 hHeld ?_
   refine pu_ 3 93 ?_
   refine ta_ 4 94 hHeld ?_
   refine on_ 5 (some 95) (fun K hK => ?_)
   refine gs_ Tryz.func87 #[.agg #[.slice (some ad) ns.length ct,.int .i64 root],.int .i64 v] ?_
   with_reducible refine (HT.out W1.drew (zAk HB1.out)).mono ?_
   rintro e_ w6 ⟨rfl,hb_⟩
   refine ⟨_,rfl,?_⟩
   have HB6:=Lib.hid (zAd (zAk HB1.out) hb_)
   have x60:=zAb hb_ (zAg c10)
   have x61:=zAb hb_ (zAg c11)
   have x62:=zAb hb_ (zAg n14)
   have x63:=zAb hb_ (zAg y0)
   clear hb_
   refine hK.out _ _ ⟨x60,x61,x62,x63⟩ (fun hHeld => ?_)
   clear hK K
   refine no_ ?_
   refine pu_ 6 96 ?_
   refine on_ 7 (some 97) (fun K hK => ?_)
   refine gs_ Tryz.func84 #[.bool (te == 1)] ?_
   with_reducible refine (zBJ (te == 1) w6).mono ?_
   rintro e_ w7 ⟨tv,rfl,HTV,hb_⟩
   refine ⟨_,rfl,?_⟩
   have HB7:=Lib.hid (zAd HB6.out hb_)
   have x70:=zAb hb_ x60
   have x71:=zAb hb_ x61
   have x72:=zAb hb_ x62
   have x73:=zAb hb_ x63
   clear hb_
   refine hK.out _ _ ⟨x70,x71,x72,x73⟩ (fun hHeld => ?_)
   clear hK K
   refine no_ ?_
   refine pu_ 8 4 ?_
   refine done_ (by kernel_rfl) ?_
   go_wp2_with fail
   go_ret
   exact ⟨by rw [HV.out,← HTV.out]; rfl,HB7.out⟩)
 ·have hkl2 : 0 < kl.length:=by have:=zDa hW.hR.ok h0 h1 (by omega); rw [hx0] at this; exact this
  have hl0 : 0 < kl.length:=by exact hkl2
  obtain ⟨adK,eK,y0⟩:=kid_pre (ns:=ns) (Kd.C_below hCk HB1.out) 0 hl0
  have hvj : rd kl 0 = kl[0]:=by simp [rd,hl0]
  have hinj:=hkn _ (List.getElem_mem hl0)
  have HV : Hid (r = if (exprF ns ol kl[0] == 2) = true then 0 else 5):=Lib.hid (by rcases hk with rfl | rfl <;> (rw [hr,hk0]; match kl,hkl2 with | a :: l,_ => show (if ((exprF ns ol a == 2) && true) = true then _ else _) = _; rw [Bool.and_true]; rfl))
  have HT:=Lib.hid (HTY.out _ hinj.1 hinj.2)
  obtain ⟨v,hv⟩ : ∃ v,v = kl[0]:=⟨_,rfl⟩
  rw [← hv] at y0 HV HT
  obtain ⟨te,hte⟩ : ∃ te,te = exprF ns ol v:=⟨_,rfl⟩
  rw [← hte] at HV HT
  have ij : (0 < kl.length) = True:=eq_true hl0
  clear hte hv hinj hvj hr HNM HKN
  clear hW hx0 hmem hkn hkl4 hk0 ht0 hCk hrr
  cases eK
  rw [zCd] at y0
  rcases hk with rfl | rfl <;> (
   go_enter Tryz.func43,Tryz.ntmps43
   go_wp2_with fail
   rw [← HW1.out] at c10 c11 n14 ⊢
   refine start_ (n:=9) (S:=fun w' => w'.cell? ⟨w.heap.size,0,none⟩ = some (.slice (some ad) ns.length ct) ∧ w'.cell? ⟨w.heap.size,1,none⟩ = some (.int .i64 root) ∧ w'.cell? ⟨w.heap.size + 1,4,none⟩ = some (.slice (some adK) kl.length c4) ∧ w'.cell? adK = some (.int .i64 v)) (ds:=[]) #[false,false,false,false,false,false,false,false,false] (by kernel_rfl) rfl rfl ⟨zAg c10,zAg c11,zAg n14,zAg y0⟩ (fun hHeld => ?_)
   refine pu_ 1 102 ?_
   refine ta_ 0 101 hHeld ?_
   refine ta_ 2 103 hHeld ?_
   refine pu_ 3 104 ?_
   refine ta_ 4 105 hHeld ?_
   refine on_ 5 (some 106) (fun K hK => ?_)
   refine gs_ Tryz.func87 #[.agg #[.slice (some ad) ns.length ct,.int .i64 root],.int .i64 v] ?_
   with_reducible refine (HT.out W1.drew (zAk HB1.out)).mono ?_
   rintro e_ w6 ⟨rfl,hb_⟩
   refine ⟨_,rfl,?_⟩
   have HB6:=Lib.hid (zAd (zAk HB1.out) hb_)
   have x60:=zAb hb_ (zAg c10)
   have x61:=zAb hb_ (zAg c11)
   have x62:=zAb hb_ (zAg n14)
   have x63:=zAb hb_ (zAg y0)
   clear hb_
   refine hK.out _ _ ⟨x60,x61,x62,x63⟩ (fun hHeld => ?_)
   clear hK K
   refine no_ ?_
   refine pu_ 6 107 ?_
   refine on_ 7 (some 108) (fun K hK => ?_)
   refine gs_ Tryz.func84 #[.bool (te == 2)] ?_
   with_reducible refine (zBJ (te == 2) w6).mono ?_
   rintro e_ w7 ⟨tv,rfl,HTV,hb_⟩
   refine ⟨_,rfl,?_⟩
   have HB7:=Lib.hid (zAd HB6.out hb_)
   have x70:=zAb hb_ x60
   have x71:=zAb hb_ x61
   have x72:=zAb hb_ x62
   have x73:=zAb hb_ x63
   clear hb_
   refine hK.out _ _ ⟨x70,x71,x72,x73⟩ (fun hHeld => ?_)
   clear hK K
   refine no_ ?_
   refine pu_ 8 4 ?_
   refine done_ (by kernel_rfl) ?_
   go_wp2_with fail
   go_ret
   exact ⟨by rw [HV.out,← HTV.out]; rfl,HB7.out⟩)
 ·subst hk
  have hc1:=zDa hW.hR.ok h0 h1 (by omega)
  have HCA:=Lib.hid (fun (W : World) (hb : Below w.heap.size w W) => rcall_is (some ad) ct ns root ol ps q h0 h1 hc1 W (hW.below hb))
  rw [ht0,hx0] at HCA
  dsimp only at HCA
  have HV : Hid (r = callF ns ol q (nmOf ns (rd kl 0)) tx.data.toList kl):=Lib.hid (by rw [hr,hk0]; rfl)
  obtain ⟨cv,hcv⟩ : ∃ cv,cv = callF ns ol q (nmOf ns (rd kl 0)) tx.data.toList kl:=⟨_,rfl⟩
  rw [← hcv] at HV HCA
  clear hcv hr hc1
  clear hW hx0 hmem hkn hkl4 hk0 ht0 hCk hrr
  go_enter Tryz.func43,Tryz.ntmps43
  go_wp2_with fail
  rw [← HW1.out]
  refine (HCA.out W1 HB1.out).mono ?_
  rintro e_ W2 ⟨rfl,hb_⟩
  have HB2:=Lib.hid (zAd HB1.out hb_)
  clear hb_
  go_wp2_with fail
  go_ret
  exact ⟨by rw [HV.out]; rfl,HB2.out⟩
 ·subst hk
  have hkl1 : kl.length ≤ 1:=by have:=kidn_14 hW.hR.ok h0 h1 hk0; rw [hx0] at this; exact this
  have HV : Hid (r = if (((nOf ns (rd ol q) == 0) == ((kl.length : Int) == 0)) && allF ns ol (nOf ns (rd ol q)) kl) = true then 0 else 5):=Lib.hid (by rw [hr,hk0]; rfl)
  have hown:=(hW.hR.own.2 q h0 h1).resolve_left (hW.hR.some_ q h0 h1 (by rw [hk0]; decide) (by rw [hk0]; decide))
  have HOW:=Lib.hid (zDj (some ad) ct ns root ol ps hW.hR hW.hPr q h0 h1 W1.drew (hW.below (zAk HB1.out)).hC hW.hct (hW.below (zAk HB1.out)).hPar)
  obtain ⟨o,ho⟩ : ∃ o,o = rd ol q:=⟨_,rfl⟩
  rw [← ho] at HV HOW hown
  obtain ⟨ad',s',n',eA',_,hn',_,zo⟩:=zCB (hW.below HB1.out).hC hown.1 hown.2.1
  cases eA'
  rw [hn'] at HV
  have f0:=eq_true hown.1
  have f1:=eq_true hown.2.1
  rw [HW1.out] at zo
  clear ho hn' hr HNM
  clear hW hx0 hmem hkl4 hk0 ht0 hrr
  clear hown
  go_enter Tryz.func43,Tryz.ntmps43
  go_wp2_with fail
  rw [← HW1.out] at c10 c11 n14 zo ⊢
  refine start_ (n:=9) (S:=fun w' => w'.cell? ⟨w.heap.size,0,none⟩ = some (.slice (some ad) ns.length ct) ∧ w'.cell? ⟨w.heap.size,1,none⟩ = some (.int .i64 root) ∧ w'.cell? ⟨w.heap.size + 1,4,none⟩ = some (.slice A4 kl.length c4) ∧ w'.cell? ⟨(ad.add (o.toNat * 5)).block,(ad.add (o.toNat * 5)).off + 1,none⟩ = some (.int .i64 n')) (ds:=[]) #[false,false,false,false,false,false,false,false,false] (by kernel_rfl) rfl rfl ⟨zAg c10,zAg c11,zAg n14,zAg zo⟩ (fun hHeld => ?_)
  refine pu_ 0 116 ?_
  refine pu_ 3 119 ?_
  refine ta_ 1 117 hHeld ?_
  refine ta_ 2 118 hHeld ?_
  refine on_ 4 (some 120) (fun K hK => ?_)
  refine gs_ Tryz.func89 #[.agg #[.slice (some ad) ns.length ct,.int .i64 root],.int .i64 q] ?_
  with_reducible refine (HOW.out).mono ?_
  rintro e_ w6 ⟨rfl,hb_⟩
  refine ⟨_,rfl,?_⟩
  have HB6:=Lib.hid (zAd (zAk HB1.out) hb_)
  have X6:=Lib.hid (zAe (zAl X1.out) hb_)
  have N6:=Lib.hid (zAe (zAl N1.out) hb_)
  have x60:=zAb hb_ (zAg c10)
  have x61:=zAb hb_ (zAg c11)
  have x62:=zAb hb_ (zAg n14)
  have x63:=zAb hb_ (zAg zo)
  clear hb_
  refine hK.out _ _ ⟨x60,x61,x62,x63⟩ (fun hHeld => ?_)
  clear hK K
  refine no_ ?_
  refine pu_ 5 121 ?_
  refine pu_ 6 122 ?_
  refine ta_ 7 123 hHeld ?_
  refine pu_ 8 7 ?_
  refine done_ (by kernel_rfl) ?_
  clear c10 c11 n10 n13 n14 zo
  rcases (show kl = [] ∨ ∃ a,kl = [a] by match kl,hkl1 with | [],_ => exact .inl rfl | [a],_ => exact .inr ⟨a,rfl⟩) with rfl | ⟨a,rfl⟩
  ·have n4:=bc_ N6.out 4
   go_wp2_with fail
   refine (zBJ (n' == 0) _).mono ?_
   rintro e_ W3 ⟨tv,rfl,HTV,hb_⟩
   have HB3:=Lib.hid (zAd HB6.out hb_)
   clear hb_
   go_wp2_with fail
   go_ret
   exact ⟨by rw [HV.out]; show Ending.returned (.int .i64 tv) = _; rw [HTV.out]; cases (n' == 0) <;> rfl,HB3.out⟩
  ·obtain ⟨adK,eK,y0⟩:=kid_pre (ns:=ns) (Kd.C_below hCk HB6.out) 0 (by simp)
   cases eK
   rw [zCd] at y0
   have y0 : w6.cell? adK = some (.int .i64 a):=y0
   have hin:=HKN.out a (by simp)
   have n4:=bc_ N6.out 4
   have c0:=bc_ X6.out 0
   have c1:=bc_ X6.out 1
   have HT:=Lib.hid (HTY.out a hin.1 hin.2 w6.drew (zAk HB6.out))
   have hv : r = if (!(n' == 0) && exprF ns ol a == n') = true then 0 else 5:=by
    rw [HV.out]
    show (if (((n' == 0) == false) && ((exprF ns ol a == n') && true)) = true then (0 : Int) else 5) = _
    rw [Bool.and_true]
    cases n' == 0 <;> rfl
   obtain ⟨te,hte⟩ : ∃ te,te = exprF ns ol a:=⟨_,rfl⟩
   rw [← hte] at HT hv
   have HV2:=Lib.hid hv
   clear hte hv hin hCk hkn hkl HKN hkl1 HV
   go_wp2_with fail
   by_cases hn0 : n' = 0
   ·subst hn0
    refine start_ (n:=14) (S:=fun w' => w'.cell? ⟨w.heap.size,0,none⟩ = some (.slice (some ad) ns.length ct) ∧ w'.cell? ⟨w.heap.size,1,none⟩ = some (.int .i64 root) ∧ w'.cell? ⟨w.heap.size + 1,4,none⟩ = some (.slice (some adK) 1 c4) ∧ w'.cell? adK = some (.int .i64 a)) (ds:=[]) #[false,false,false,false,false,false,false,false,false,false,false,false,false,false] (by kernel_rfl) rfl rfl ⟨zAg c0,zAg c1,zAg n4,zAg y0⟩ (fun hHeld => ?_)
    refine pu_ 0 131 ?_
    refine pu_ 1 132 ?_
    refine pu_ 2 133 ?_
    refine pn_ 3 134 ?_
    refine pn_ 4 135 ?_
    refine pn_ 5 136 ?_
    refine pn_ 6 137 ?_
    refine pn_ 7 138 ?_
    refine pn_ 8 139 ?_
    refine pn_ 9 140 ?_
    refine pn_ 10 141 ?_
    refine pu_ 11 142 ?_
    refine on_ 12 (some 143) (fun K hK => ?_)
    refine gs_ Tryz.func84 #[.bool (false)] ?_
    with_reducible refine (zBJ (false) w6.drew).mono ?_
    rintro e_ w8 ⟨tv,rfl,HTV,hb_⟩
    refine ⟨_,rfl,?_⟩
    have HB8:=Lib.hid (zAd (zAk HB6.out) hb_)
    have x80:=zAb hb_ (zAg c0)
    have x81:=zAb hb_ (zAg c1)
    have x82:=zAb hb_ (zAg n4)
    have x83:=zAb hb_ (zAg y0)
    clear hb_
    refine hK.out _ _ ⟨x80,x81,x82,x83⟩ (fun hHeld => ?_)
    clear hK K
    refine no_ ?_
    refine pu_ 13 4 ?_
    refine done_ (by kernel_rfl) ?_
    go_wp2_with fail
    go_ret
    exact ⟨by rw [HV2.out]; show Ending.returned (.int .i64 tv) = _; rw [HTV.out]; rfl,HB8.out⟩
   ·have hnb : (n' == 0) = false:=beq_eq_false_iff_ne.2 hn0
    have hnc : (n' != 0) = true:=by rw [bne,hnb]; rfl
    refine start_ (n:=14) (S:=fun w' => w'.cell? ⟨w.heap.size,0,none⟩ = some (.slice (some ad) ns.length ct) ∧ w'.cell? ⟨w.heap.size,1,none⟩ = some (.int .i64 root) ∧ w'.cell? ⟨w.heap.size + 1,4,none⟩ = some (.slice (some adK) 1 c4) ∧ w'.cell? adK = some (.int .i64 a)) (ds:=[]) #[false,false,false,false,false,false,false,false,false,false,false,false,false,false] (by kernel_rfl) rfl rfl ⟨zAg c0,zAg c1,zAg n4,zAg y0⟩ (fun hHeld => ?_)
    refine pu_ 0 131 ?_
    refine pu_ 1 132 ?_
    refine pu_ 2 133 ?_
    refine pu_ 4 135 ?_
    refine pu_ 9 140 ?_
    refine ta_ 3 134 hHeld ?_
    refine ta_ 5 136 hHeld ?_
    refine pu_ 6 137 ?_
    refine ta_ 7 138 hHeld ?_
    refine on_ 8 (some 139) (fun K hK => ?_)
    refine gs_ Tryz.func87 #[.agg #[.slice (some ad) ns.length ct,.int .i64 root],.int .i64 a] ?_
    with_reducible refine (HT.out).mono ?_
    rintro e_ w7 ⟨rfl,hb_⟩
    refine ⟨_,rfl,?_⟩
    have HB7:=Lib.hid (zAd (zAk HB6.out) hb_)
    have x70:=zAb hb_ (zAg c0)
    have x71:=zAb hb_ (zAg c1)
    have x72:=zAb hb_ (zAg n4)
    have x73:=zAb hb_ (zAg y0)
    clear hb_
    refine hK.out _ _ ⟨x70,x71,x72,x73⟩ (fun hHeld => ?_)
    clear hK K
    refine no_ ?_
    refine pu_ 10 141 ?_
    refine pu_ 11 142 ?_
    refine on_ 12 (some 143) (fun K hK => ?_)
    refine gs_ Tryz.func84 #[.bool (te == n')] ?_
    with_reducible refine (zBJ (te == n') w7).mono ?_
    rintro e_ w8 ⟨tv,rfl,HTV,hb_⟩
    refine ⟨_,rfl,?_⟩
    have HB8:=Lib.hid (zAd (HB7.out) hb_)
    have x80:=zAb hb_ x70
    have x81:=zAb hb_ x71
    have x82:=zAb hb_ x72
    have x83:=zAb hb_ x73
    clear hb_
    refine hK.out _ _ ⟨x80,x81,x82,x83⟩ (fun hHeld => ?_)
    clear hK K
    refine no_ ?_
    refine pu_ 13 4 ?_
    refine done_ (by kernel_rfl) ?_
    go_wp2_with fail
    go_ret
    exact ⟨by rw [HV2.out,hnb]; show Ending.returned (.int .i64 tv) = Ending.returned (.int .i64 (if (true && (te == n')) = true then 0 else 5)); rw [Bool.true_and,HTV.out],HB8.out⟩
 ·have HV : Hid (r = 0):=Lib.hid (by rcases hk with rfl | rfl | rfl | rfl | rfl | rfl <;> (rw [hr,hk0]; rfl))
  clear hr
  clear hW hx0 hmem hkn hkl4 hk0 ht0 hCk hrr
  rcases hk with rfl | rfl | rfl | rfl | rfl | rfl <;> (
   go_enter Tryz.func43,Tryz.ntmps43
   go_wp2_with fail
   go_ret
   exact ⟨by rw [HV.out]; rfl,by rw [← HW1.out]; exact HB1.out⟩)
end Go.Proofs.YtkhlfdcjgooogaaGreat.P
