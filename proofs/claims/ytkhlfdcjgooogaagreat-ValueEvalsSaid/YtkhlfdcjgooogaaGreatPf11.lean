import Derived.Test.YtkhlfdcjgooogaaGreatWMore
import Derived.Test.YtkhlfdcjgooogaaGreatVaD
import Derived.Test.YtkhlfdcjgooogaaGreatReS
import Derived.Test.YtkhlfdcjgooogaaGreatTyV
import Derived.Test.YtkhlfdcjgooogaaGreatPf103
set_option maxRecDepth 100000
set_option maxHeartbeats 16000000
set_option linter.unusedVariables false
set_option linter.unusedSimpArgs false
set_option linter.unusedSectionVars false
namespace Go.Proofs.YtkhlfdcjgooogaaGreat.P
open Go.RowKit Go.Proofs.YtkhlfdcjgooogaaGreatW.PrintWords Go.Proofs.YtkhlfdcjgooogaaGreatW.PrintLast Go.Proofs.YtkhlfdcjgooogaaGreatW.PrintMore
theorem exB_iff (k : Int) : exB k = true ↔ 20 ≤ k ∧ k ≤ 27:=by simp [exB]
theorem ex_kids {ns : List S66} (hA : AllOk ns) {i : Int} (h0 : 0 ≤ i) (h1 : i < ns.length) (hk1 : 20 ≤ kdOf ns i) (hk2 : kdOf ns i ≤ 27) : (rd_T66 ns i).f4.length ≤ 2 ∧ ∀ k ∈ (rd_T66 ns i).f4,20 ≤ kdOf ns k ∧ kdOf ns k ≤ 27:=by
 by_cases h : kdOf ns i = 23 ∨ kdOf ns i = 26
 ·have:=zCC hA h0 h1 (by omega)
  exact ⟨by omega,fun k hk => (exB_iff _).1 (this.2 k hk)⟩
 ·by_cases h27 : kdOf ns i = 27
  ·have:=zDt hA h0 h1 (by omega)
   exact ⟨by omega,fun k hk => (exB_iff _).1 (this.2 k hk)⟩
  ·rw [kids_leaf hA h0 h1 (by omega)]
   exact ⟨by simp,fun k hk => by simp at hk⟩
theorem Rt.dn {ns : List S66} {root : Int} {ol : List Int} (h : Rt ns root ol) {i : Int} (h0 : 0 ≤ i) (h1 : i < ns.length) : ∀ k ∈ (rd_T66 ns i).f4,0 ≤ k ∧ k < i:=fun k hk => by
 obtain ⟨kf,ps,_,h2,_⟩:=h.par
 obtain ⟨j,rfl⟩:=Int.eq_ofNat_of_zero_le h0
 have hj : j < ns.length:=by omega
 rw [rdT24 ns j hj] at hk
 exact h2.dn j hj k hk
theorem eval_is (At : Option Addr) (ct : Nat) (ns : List S66) (root : Int) (ol : List Int) (hR : Rt ns root ol) (hrb : rtB ns root true) (An : Option Addr) (cn : Nat) (nl : List NV) (Bh : Nat) (ok : Nat → Prop) (L : List (List Int)) :
  ∀ (f : Nat) (q : Int),0 ≤ q → q < ns.length → q < f → 20 ≤ kdOf ns q → kdOf ns q ≤ 27 → ∀ w,EvW At ct ns An cn nl Bh ok L w →
  Calls Tryz.prog 21 #[.agg #[.slice At ns.length ct,.int .i64 root,.slice An nl.length cn,.pointer (some ⟨Bh,0,none⟩)],.int .i64 q] w fun e w' => e = .returned (.tuple #[.agg #[.int .i64 (evalF ns ol nl L f q).1,.int .i64 (evalF ns ol nl L f q).2.1],.int .i64 (evalF ns ol nl L f q).2.2]) ∧ Below w.heap.size w w'
 | 0,q,h0,h1,hf,_,_,w,_ => by omega
 | f + 1,q,h0,h1,hf,hk1,hk2,w,hW => by
  have hx:=ex_kids hR.ok h0 h1 hk1 hk2
  exact eval_step At ct ns root ol hR hrb An cn nl Bh ok L (evalF ns ol nl L f) q h0 h1 hk1 hk2 hx.1 (fun kid hkid w' hW' => by
   have hd:=hR.dn h0 h1 kid hkid
   exact eval_is At ct ns root ol hR hrb An cn nl Bh ok L f kid hd.1 (by omega) (by omega) (hx.2 kid hkid).1 (hx.2 kid hkid).2 w' hW') w hW _ rfl
def CkC (f : Nat) (At : Option Addr) (ct : Nat) (ns : List S66) (root : Int) (gd : Bool) (w : World) : Prop:=∀ W,Below w.heap.size w W → Calls Tryz.prog f #[.agg #[.slice At ns.length ct,.int .i64 root]] W fun e w' => ∃ a c : Int,e = .returned (.tuple #[.int .i64 a,.int .i64 c]) ∧ Hid (c = 0 ↔ gd = true) ∧ Below W.heap.size W w'
theorem CkC.below {f : Nat} {At : Option Addr} {ct : Nat} {ns : List S66} {root : Int} {gd : Bool} {w W : World} (h : CkC f At ct ns root gd w) (hb : Below w.heap.size w W) : CkC f At ct ns root gd W:=fun W' hb' => h W' (zAd hb hb')
def ExIn (ns : List S66) (q : Int) : Prop:=0 ≤ q ∧ q < ns.length ∧ 20 ≤ kdOf ns q ∧ kdOf ns q ≤ 27
def smB (ns : List S66) : Bool:=decide (ns.length ≤ 300) && ns.all (fun x => decide (x.f4.length ≤ 300) && decide (x.f3.size ≤ 200))
theorem sm_of {ns : List S66} (h : smB ns = true) : Sm ns ∧ ns.length ≤ 300:=by
 unfold smB at h
 rw [Bool.and_eq_true,decide_eq_true_eq,List.all_eq_true] at h
 refine ⟨⟨by omega,fun x hx => ?_⟩,h.1⟩
 have:=h.2 x hx
 simp only [Bool.and_eq_true,decide_eq_true_eq] at this
 omega
theorem small_is (At : Option Addr) (ct : Nat) (ns : List S66) (root : Int) (w : World) (hC : Kd.C k66 w At ns.length ns) (hct : ns.length ≤ ct) :
  Calls Tryz.prog 5 #[.agg #[.slice At ns.length ct,.int .i64 root]] w fun e w' => e = .returned (.bool (smB ns)) ∧ Below w.heap.size w w':=by
 obtain ⟨W0,hW0⟩ : ∃ W0,W0 = w.alloc (.cells #[.slice At ns.length ct,.int .i64 root] 24):=⟨_,rfl⟩
 have HB0:=Lib.hid (box_ref At ct ns root w W0 hW0).1
 have X0:=Lib.hid (box_ref At ct ns root w W0 hW0).2
 have HW0:=Lib.hid hW0
 have HC:=Lib.hid hC
 obtain ⟨r,hr⟩ : ∃ r,r = smB ns:=⟨_,rfl⟩
 rw [← hr]
 by_cases hn : ns.length ≤ 300
 rotate_left
 ·have HV : Hid (r = false):=Lib.hid (by rw [hr]; unfold smB; rw [decide_eq_false hn,Bool.false_and])
  have hn' : (300 : Int) < ns.length:=by omega
  clear hW0 hC hr hn
  go_enter Tryz.func5,Tryz.ntmps5
  go_wp2_with fail
  go_ret
  exact ⟨by rw [HV.out]; rfl,by rw [← HW0.out]; exact HB0.out⟩
 have HV : Hid (r = ns.all (fun x => decide (x.f4.length ≤ 300) && decide (x.f3.size ≤ 200))):=Lib.hid (by rw [hr]; unfold smB; rw [decide_eq_true hn,Bool.true_and])
 have hn' : ¬ (300 : Int) < ns.length:=by omega
 clear hW0 hC hr
 go_enter Tryz.func5,Tryz.ntmps5
 go_wp2_with fail
 rw [← HW0.out]
 go_loopg [3] (ns.length + 1) (fun kq v3 W => ∃ i : Nat,v3 = .int .i64 i ∧ i ≤ ns.length ∧ Hid (i + kq = ns.length + 1) ∧ Hid (r = (ns.drop i).all (fun x => decide (x.f4.length ≤ 300) && decide (x.f3.size ≤ 200))) ∧ Hid (Below w.heap.size w W) ∧ Hid (W.heap[w.heap.size]? = some (.cells #[.slice At ns.length ct,.int .i64 root] 24 (0,0))))
 case atStart => exact ⟨0,rfl,Nat.zero_le _,Lib.hid (by omega),Lib.hid (by rw [List.drop_zero]; exact HV.out),HB0,X0⟩
 case round =>
  obtain ⟨i,rfl,hi,HN,HO,HB,X⟩:=hrel
  have c0:=bc_ X.out 0
  by_cases hlt : i < ns.length
  ·obtain ⟨ad,A4,c4,eA,z0,z1,z2,z3,z4,l4,g4⟩:=at_T66 (Kd.C_below HC.out HB.out) (i : Int) (by omega) (by omega)
   rw [rdT24 ns i hlt] at z3 z4
   rw [Int.toNat_natCast] at z3 z4
   have hst : (ns.drop i).all (fun x => decide (x.f4.length ≤ 300) && decide (x.f3.size ≤ 200)) = ((decide (ns[i].f4.length ≤ 300) && decide (ns[i].f3.size ≤ 200)) && (ns.drop (i + 1)).all (fun x => decide (x.f4.length ≤ 300) && decide (x.f3.size ≤ 200))):=by rw [List.drop_eq_getElem_cons hlt,List.all_cons]
   obtain ⟨x,hx⟩ : ∃ x,x = ns[i]:=⟨_,rfl⟩
   rw [← hx] at z3 z4 hst
   obtain ⟨k,n,at_,tx,kl⟩:=x
   dsimp only at z3 z4 hst
   have HST:=Lib.hid (HO.out.trans hst)
   have i0 : ((i : Int) < (ns.length : Int)) = True:=eq_true (by omega)
   cases eA
   clear hx hst HO z0 z1 z2 l4 g4
   by_cases h1 : kl.length ≤ 300
   ·have h1' : ¬ (300 : Int) < kl.length:=by omega
    by_cases h2 : tx.size ≤ 200
    ·have h2' : ¬ (200 : Int) < tx.size:=by omega
     have HO2 : Hid (r = (ns.drop (i + 1)).all (fun x => decide (x.f4.length ≤ 300) && decide (x.f3.size ≤ 200))):=Lib.hid (by rw [HST.out,decide_eq_true h1,decide_eq_true h2]; simp)
     clear HST h1 h2
     go_wp2_with fail
     go_roundg (gk - 1)
     case measure => have:=HN.out; omega
     case rel => exact ⟨i + 1,by norm_cast,hlt,Lib.hid (by have:=HN.out; omega),HO2,HB,X⟩
    ·have h2' : (200 : Int) < tx.size:=by omega
     have HV2 : Hid (r = false):=Lib.hid (by rw [HST.out,decide_eq_false h2]; simp)
     clear HST h1 h2
     go_wp2_with fail
     go_ret
     exact ⟨by rw [HV2.out]; rfl,HB.out⟩
   ·have h1' : (300 : Int) < kl.length:=by omega
    have HV2 : Hid (r = false):=Lib.hid (by rw [HST.out,decide_eq_false h1]; simp)
    clear HST h1
    go_wp2_with fail
    go_ret
    exact ⟨by rw [HV2.out]; rfl,HB.out⟩
  ·obtain rfl : i = ns.length:=by omega
   have HV2 : Hid (r = true):=Lib.hid (by rw [HO.out,List.drop_length]; rfl)
   clear HO
   go_wp2_with fail
   go_ret
   exact ⟨by rw [HV2.out]; rfl,HB.out⟩
theorem zDo (At : Option Addr) (ct : Nat) (ns : List S66) (root : Int) (gd : Bool) (An : Option Addr) (nn cn B : Nat) (q : Int) (v : Int × Int × Int) (w : World) (hC : Kd.C k66 w At ns.length ns) (hCK : CkC 20 At ct ns root gd w)
  (hv : (gd = true ∧ ExIn ns q ∧ ∀ W,Below w.heap.size w W → Calls Tryz.prog 21 #[.agg #[.slice At ns.length ct,.int .i64 root,.slice An nn cn,.pointer (some ⟨B,0,none⟩)],.int .i64 q] W fun e w' => e = .returned (.tuple #[.agg #[.int .i64 v.1,.int .i64 v.2.1],.int .i64 v.2.2]) ∧ Below W.heap.size W w') ∨ (¬ (gd = true ∧ ExIn ns q) ∧ v = (0,0,0))) :
  Calls Tryz.prog 8 #[.agg #[.slice At ns.length ct,.int .i64 root],.int .i64 q,.slice An nn cn,.pointer (some ⟨B,0,none⟩)] w fun e w' => e = .returned (.tuple #[.agg #[.int .i64 v.1,.int .i64 v.2.1],.int .i64 v.2.2]) ∧ Below w.heap.size w w':=by
 have hb0 : Below w.heap.size w ((w.alloc (.cells #[.slice At ns.length ct,.int .i64 root] 24)).alloc (.cells #[.int .i64 0,.int .i64 0] 43)):=zAa (zAa (Below.refl _ _) _) _
 have x0:=zAj (blk_new w (.cells #[.slice At ns.length ct,.int .i64 root] 24)) (.cells #[.int .i64 0,.int .i64 0] 43)
 have x1:=nb1 w (.cells #[.slice At ns.length ct,.int .i64 root] 24) (.cells #[.int .i64 0,.int .i64 0] 43)
 obtain ⟨W0,hW0⟩ : ∃ W0,W0 = (w.alloc (.cells #[.slice At ns.length ct,.int .i64 root] 24)).alloc (.cells #[.int .i64 0,.int .i64 0] 43):=⟨_,rfl⟩
 rw [← hW0] at hb0 x0 x1
 have HB0:=Lib.hid hb0
 have X0:=Lib.hid x0
 have X1:=Lib.hid x1
 have HW0:=Lib.hid hW0
 have HC:=Lib.hid hC
 have HCK:=Lib.hid (hCK W0 hb0)
 have HV:=Lib.hid hv
 clear hb0 x0 x1 hW0 hC hCK hv
 go_enter Tryz.func8,Tryz.ntmps8
 go_wp2_with fail
 rw [← HW0.out]
 refine HCK.out.mono ?_
 rintro e_ W1 ⟨a,c,rfl,HCC,hb_⟩
 have HB1:=Lib.hid (zAd HB0.out hb_)
 have X01:=Lib.hid (zAe X0.out hb_)
 have X11:=Lib.hid (zAe X1.out hb_)
 clear hb_ HCK
 have c0:=bc_ X01.out 0
 have c1:=bc_ X01.out 1
 have hcs : (c ≠ 0 ∨ q < 0 ∨ (ns.length : Int) ≤ q) ∨ (c = 0 ∧ 0 ≤ q ∧ q < ns.length):=by omega
 rcases hcs with hcs | ⟨rfl,h0,h1⟩
 ·have hvv : v = (0,0,0):=by
   rcases HV.out with ⟨hg,hx,_⟩ | ⟨_,h⟩
   ·have:=HCC.out.2 hg
    unfold ExIn at hx
    omega
   ·exact h
  have HVV:=Lib.hid hvv
  have f0:=bc_ X11.out 0
  have f1:=bc_ X11.out 1
  have f2:=zAc X11.out 0
  have f3:=zAc X11.out 1
  have hc3 : (¬ c = 0) ∨ (c = 0 ∧ q < 0) ∨ (c = 0 ∧ ¬ q < 0 ∧ (ns.length : Int) ≤ q):=by omega
  clear hvv HV HCC hcs
  rcases hc3 with hcn | ⟨rfl,hq⟩ | ⟨rfl,hq,hq2⟩
  ·have hcb : (c != 0) = true:=by simpa using hcn
   go_wp2_with fail
   refine bodyPost_ret (zAq rfl _ _ (w.heap.size + 1) 43 #[.int .i64 0,.int .i64 0] (0,0) _ rfl (blk_put (blk_put X11.out 0 _ rfl) 1 _ rfl) Tryz.underlying43 rfl (by kernel_rfl)) rfl ?_
   exact ⟨by rw [HVV.out]; rfl,(HB1.out.setCell (by show w.heap.size ≤ w.heap.size + 1; omega) _).setCell (by show w.heap.size ≤ w.heap.size + 1; omega) _⟩
  ·go_wp2_with fail
   refine bodyPost_ret (zAq rfl _ _ (w.heap.size + 1) 43 #[.int .i64 0,.int .i64 0] (0,0) _ rfl (blk_put (blk_put X11.out 0 _ rfl) 1 _ rfl) Tryz.underlying43 rfl (by kernel_rfl)) rfl ?_
   exact ⟨by rw [HVV.out]; rfl,(HB1.out.setCell (by show w.heap.size ≤ w.heap.size + 1; omega) _).setCell (by show w.heap.size ≤ w.heap.size + 1; omega) _⟩
  ·go_wp2_with fail
   refine bodyPost_ret (zAq rfl _ _ (w.heap.size + 1) 43 #[.int .i64 0,.int .i64 0] (0,0) _ rfl (blk_put (blk_put X11.out 0 _ rfl) 1 _ rfl) Tryz.underlying43 rfl (by kernel_rfl)) rfl ?_
   exact ⟨by rw [HVV.out]; rfl,(HB1.out.setCell (by show w.heap.size ≤ w.heap.size + 1; omega) _).setCell (by show w.heap.size ≤ w.heap.size + 1; omega) _⟩
 ·obtain ⟨ad,rfl,z0⟩:=zCA (Kd.C_below HC.out HB1.out) h0 h1
  have hgd:=HCC.out.1 rfl
  have d0 : ¬ q < 0:=by omega
  have d1 : ¬ (ns.length : Int) ≤ q:=by omega
  have e0:=eq_true h0
  have e1:=eq_true h1
  have HVX : Hid ((ExIn ns q ∧ ∀ W,Below w.heap.size w W → Calls Tryz.prog 21 #[.agg #[.slice (some ad) ns.length ct,.int .i64 root,.slice An nn cn,.pointer (some ⟨B,0,none⟩)],.int .i64 q] W fun e w' => e = .returned (.tuple #[.agg #[.int .i64 v.1,.int .i64 v.2.1],.int .i64 v.2.2]) ∧ Below W.heap.size W w') ∨ (¬ ExIn ns q ∧ v = (0,0,0))):=Lib.hid (by
   rcases HV.out with ⟨_,h⟩ | ⟨h,h2⟩
   ·exact .inl h
   ·exact .inr ⟨fun hx => h ⟨hgd,hx⟩,h2⟩)
  obtain ⟨k,hk⟩ : ∃ k,k = kdOf ns q:=⟨_,rfl⟩
  rw [← hk] at z0
  have HK:=Lib.hid hk
  clear HV HCC hgd hk
  by_cases hk2 : 20 ≤ k ∧ k ≤ 27
  ·have hev:=(HVX.out.resolve_right (fun h => h.1 ⟨h0,h1,by rw [← HK.out]; exact hk2.1,by rw [← HK.out]; exact hk2.2⟩)).2
   have HEV:=Lib.hid (hev W1 HB1.out)
   have g1 : ¬ k < 20:=by omega
   have g2 : ¬ 27 < k:=by omega
   clear hev HVX hk2
   go_wp2_with fail
   refine HEV.out.mono ?_
   rintro e_ W2 ⟨rfl,hb_⟩
   have HB2:=Lib.hid (zAd HB1.out hb_)
   have X12:=Lib.hid (zAe X11.out hb_)
   clear hb_ c0 c1 z0
   have f0:=bc_ X12.out 0
   have f1:=bc_ X12.out 1
   have f2:=zAc X12.out 0
   have f3:=zAc X12.out 1
   go_wp2_with fail
   refine bodyPost_ret (zAq rfl _ _ (w.heap.size + 1) 43 #[.int .i64 v.1,.int .i64 v.2.1] (0,0) _ rfl (blk_put (blk_put X12.out 0 _ rfl) 1 _ rfl) Tryz.underlying43 rfl (by kernel_rfl)) rfl ?_
   exact ⟨rfl,(HB2.out.setCell (by show w.heap.size ≤ w.heap.size + 1; omega) _).setCell (by show w.heap.size ≤ w.heap.size + 1; omega) _⟩
  ·have hvv : v = (0,0,0):=(HVX.out.resolve_left (fun h => hk2 ⟨by rw [HK.out]; exact h.1.2.2.1,by rw [HK.out]; exact h.1.2.2.2⟩)).2
   have HVV:=Lib.hid hvv
   have f0:=bc_ X11.out 0
   have f1:=bc_ X11.out 1
   have f2:=zAc X11.out 0
   have f3:=zAc X11.out 1
   have hc4 : k < 20 ∨ (¬ k < 20 ∧ 27 < k):=by omega
   clear hvv HVX hk2
   rcases hc4 with g1 | ⟨g1,g2⟩
   ·go_wp2_with fail
    refine bodyPost_ret (zAq rfl _ _ (w.heap.size + 1) 43 #[.int .i64 0,.int .i64 0] (0,0) _ rfl (blk_put (blk_put X11.out 0 _ rfl) 1 _ rfl) Tryz.underlying43 rfl (by kernel_rfl)) rfl ?_
    exact ⟨by rw [HVV.out]; rfl,(HB1.out.setCell (by show w.heap.size ≤ w.heap.size + 1; omega) _).setCell (by show w.heap.size ≤ w.heap.size + 1; omega) _⟩
   ·go_wp2_with fail
    refine bodyPost_ret (zAq rfl _ _ (w.heap.size + 1) 43 #[.int .i64 0,.int .i64 0] (0,0) _ rfl (blk_put (blk_put X11.out 0 _ rfl) 1 _ rfl) Tryz.underlying43 rfl (by kernel_rfl)) rfl ?_
    exact ⟨by rw [HVV.out]; rfl,(HB1.out.setCell (by show w.heap.size ≤ w.heap.size + 1; omega) _).setCell (by show w.heap.size ≤ w.heap.size + 1; omega) _⟩
theorem zCY (At : Option Addr) (ct : Nat) (ns : List S66) (root : Int) (gd : Bool) (An : Option Addr) (nn cn B : Nat) (q : Int) (v : Int × Int × Int) (w : World) (hC : Kd.C k66 w At ns.length ns) (hCK : CkC 22 At ct ns root gd w)
  (hv : (gd = true ∧ ExIn ns q ∧ ∀ W,Below w.heap.size w W → Calls Tryz.prog 23 #[.agg #[.slice At ns.length ct,.int .i64 root],.int .i64 q,.slice An nn cn,.pointer (some ⟨B,0,none⟩)] W fun e w' => e = .returned (.tuple #[.agg #[.int .i64 v.1,.int .i64 v.2.1],.int .i64 v.2.2]) ∧ Below W.heap.size W w') ∨ (¬ (gd = true ∧ ExIn ns q) ∧ v = (0,0,0))) :
  Calls Tryz.prog 9 #[.agg #[.slice At ns.length ct,.int .i64 root],.int .i64 q,.slice An nn cn,.pointer (some ⟨B,0,none⟩)] w fun e w' => e = .returned (.tuple #[.agg #[.int .i64 v.1,.int .i64 v.2.1],.int .i64 v.2.2]) ∧ Below w.heap.size w w':=by
 have hb0 : Below w.heap.size w ((w.alloc (.cells #[.slice At ns.length ct,.int .i64 root] 24)).alloc (.cells #[.int .i64 0,.int .i64 0] 49)):=zAa (zAa (Below.refl _ _) _) _
 have x0:=zAj (blk_new w (.cells #[.slice At ns.length ct,.int .i64 root] 24)) (.cells #[.int .i64 0,.int .i64 0] 49)
 have x1:=nb1 w (.cells #[.slice At ns.length ct,.int .i64 root] 24) (.cells #[.int .i64 0,.int .i64 0] 49)
 obtain ⟨W0,hW0⟩ : ∃ W0,W0 = (w.alloc (.cells #[.slice At ns.length ct,.int .i64 root] 24)).alloc (.cells #[.int .i64 0,.int .i64 0] 49):=⟨_,rfl⟩
 rw [← hW0] at hb0 x0 x1
 have HB0:=Lib.hid hb0
 have X0:=Lib.hid x0
 have X1:=Lib.hid x1
 have HW0:=Lib.hid hW0
 have HC:=Lib.hid hC
 have HCK:=Lib.hid (hCK W0 hb0)
 have HV:=Lib.hid hv
 clear hb0 x0 x1 hW0 hC hCK hv
 go_enter Tryz.func9,Tryz.ntmps9
 go_wp2_with fail
 rw [← HW0.out]
 refine HCK.out.mono ?_
 rintro e_ W1 ⟨a,c,rfl,HCC,hb_⟩
 have HB1:=Lib.hid (zAd HB0.out hb_)
 have X01:=Lib.hid (zAe X0.out hb_)
 have X11:=Lib.hid (zAe X1.out hb_)
 clear hb_ HCK
 have c0:=bc_ X01.out 0
 have c1:=bc_ X01.out 1
 have hcs : (c ≠ 0 ∨ q < 0 ∨ (ns.length : Int) ≤ q) ∨ (c = 0 ∧ 0 ≤ q ∧ q < ns.length):=by omega
 rcases hcs with hcs | ⟨rfl,h0,h1⟩
 ·have hvv : v = (0,0,0):=by
   rcases HV.out with ⟨hg,hx,_⟩ | ⟨_,h⟩
   ·have:=HCC.out.2 hg
    unfold ExIn at hx
    omega
   ·exact h
  have HVV:=Lib.hid hvv
  have f0:=bc_ X11.out 0
  have f1:=bc_ X11.out 1
  have f2:=zAc X11.out 0
  have f3:=zAc X11.out 1
  have hc3 : (¬ c = 0) ∨ (c = 0 ∧ q < 0) ∨ (c = 0 ∧ ¬ q < 0 ∧ (ns.length : Int) ≤ q):=by omega
  clear hvv HV HCC hcs
  rcases hc3 with hcn | ⟨rfl,hq⟩ | ⟨rfl,hq,hq2⟩
  ·have hcb : (c != 0) = true:=by simpa using hcn
   go_wp2_with fail
   refine bodyPost_ret (zAq rfl _ _ (w.heap.size + 1) 49 #[.int .i64 0,.int .i64 0] (0,0) _ rfl (blk_put (blk_put X11.out 0 _ rfl) 1 _ rfl) Tryz.underlying49 rfl (by kernel_rfl)) rfl ?_
   exact ⟨by rw [HVV.out]; rfl,(HB1.out.setCell (by show w.heap.size ≤ w.heap.size + 1; omega) _).setCell (by show w.heap.size ≤ w.heap.size + 1; omega) _⟩
  ·go_wp2_with fail
   refine bodyPost_ret (zAq rfl _ _ (w.heap.size + 1) 49 #[.int .i64 0,.int .i64 0] (0,0) _ rfl (blk_put (blk_put X11.out 0 _ rfl) 1 _ rfl) Tryz.underlying49 rfl (by kernel_rfl)) rfl ?_
   exact ⟨by rw [HVV.out]; rfl,(HB1.out.setCell (by show w.heap.size ≤ w.heap.size + 1; omega) _).setCell (by show w.heap.size ≤ w.heap.size + 1; omega) _⟩
  ·go_wp2_with fail
   refine bodyPost_ret (zAq rfl _ _ (w.heap.size + 1) 49 #[.int .i64 0,.int .i64 0] (0,0) _ rfl (blk_put (blk_put X11.out 0 _ rfl) 1 _ rfl) Tryz.underlying49 rfl (by kernel_rfl)) rfl ?_
   exact ⟨by rw [HVV.out]; rfl,(HB1.out.setCell (by show w.heap.size ≤ w.heap.size + 1; omega) _).setCell (by show w.heap.size ≤ w.heap.size + 1; omega) _⟩
 ·obtain ⟨ad,rfl,z0⟩:=zCA (Kd.C_below HC.out HB1.out) h0 h1
  have hgd:=HCC.out.1 rfl
  have d0 : ¬ q < 0:=by omega
  have d1 : ¬ (ns.length : Int) ≤ q:=by omega
  have e0:=eq_true h0
  have e1:=eq_true h1
  have HVX : Hid ((ExIn ns q ∧ ∀ W,Below w.heap.size w W → Calls Tryz.prog 23 #[.agg #[.slice (some ad) ns.length ct,.int .i64 root],.int .i64 q,.slice An nn cn,.pointer (some ⟨B,0,none⟩)] W fun e w' => e = .returned (.tuple #[.agg #[.int .i64 v.1,.int .i64 v.2.1],.int .i64 v.2.2]) ∧ Below W.heap.size W w') ∨ (¬ ExIn ns q ∧ v = (0,0,0))):=Lib.hid (by
   rcases HV.out with ⟨_,h⟩ | ⟨h,h2⟩
   ·exact .inl h
   ·exact .inr ⟨fun hx => h ⟨hgd,hx⟩,h2⟩)
  obtain ⟨k,hk⟩ : ∃ k,k = kdOf ns q:=⟨_,rfl⟩
  rw [← hk] at z0
  have HK:=Lib.hid hk
  clear HV HCC hgd hk
  by_cases hk2 : 20 ≤ k ∧ k ≤ 27
  ·have hev:=(HVX.out.resolve_right (fun h => h.1 ⟨h0,h1,by rw [← HK.out]; exact hk2.1,by rw [← HK.out]; exact hk2.2⟩)).2
   have HEV:=Lib.hid (hev W1 HB1.out)
   have g1 : ¬ k < 20:=by omega
   have g2 : ¬ 27 < k:=by omega
   clear hev HVX hk2
   go_wp2_with fail
   refine HEV.out.mono ?_
   rintro e_ W2 ⟨rfl,hb_⟩
   have HB2:=Lib.hid (zAd HB1.out hb_)
   have X12:=Lib.hid (zAe X11.out hb_)
   clear hb_ c0 c1 z0
   have f0:=bc_ X12.out 0
   have f1:=bc_ X12.out 1
   have f2:=zAc X12.out 0
   have f3:=zAc X12.out 1
   go_wp2_with fail
   refine bodyPost_ret (zAq rfl _ _ (w.heap.size + 1) 49 #[.int .i64 v.1,.int .i64 v.2.1] (0,0) _ rfl (blk_put (blk_put X12.out 0 _ rfl) 1 _ rfl) Tryz.underlying49 rfl (by kernel_rfl)) rfl ?_
   exact ⟨rfl,(HB2.out.setCell (by show w.heap.size ≤ w.heap.size + 1; omega) _).setCell (by show w.heap.size ≤ w.heap.size + 1; omega) _⟩
  ·have hvv : v = (0,0,0):=(HVX.out.resolve_left (fun h => hk2 ⟨by rw [HK.out]; exact h.1.2.2.1,by rw [HK.out]; exact h.1.2.2.2⟩)).2
   have HVV:=Lib.hid hvv
   have f0:=bc_ X11.out 0
   have f1:=bc_ X11.out 1
   have f2:=zAc X11.out 0
   have f3:=zAc X11.out 1
   have hc4 : k < 20 ∨ (¬ k < 20 ∧ 27 < k):=by omega
   clear hvv HVX hk2
   rcases hc4 with g1 | ⟨g1,g2⟩
   ·go_wp2_with fail
    refine bodyPost_ret (zAq rfl _ _ (w.heap.size + 1) 49 #[.int .i64 0,.int .i64 0] (0,0) _ rfl (blk_put (blk_put X11.out 0 _ rfl) 1 _ rfl) Tryz.underlying49 rfl (by kernel_rfl)) rfl ?_
    exact ⟨by rw [HVV.out]; rfl,(HB1.out.setCell (by show w.heap.size ≤ w.heap.size + 1; omega) _).setCell (by show w.heap.size ≤ w.heap.size + 1; omega) _⟩
   ·go_wp2_with fail
    refine bodyPost_ret (zAq rfl _ _ (w.heap.size + 1) 49 #[.int .i64 0,.int .i64 0] (0,0) _ rfl (blk_put (blk_put X11.out 0 _ rfl) 1 _ rfl) Tryz.underlying49 rfl (by kernel_rfl)) rfl ?_
    exact ⟨by rw [HVV.out]; rfl,(HB1.out.setCell (by show w.heap.size ≤ w.heap.size + 1; omega) _).setCell (by show w.heap.size ≤ w.heap.size + 1; omega) _⟩
theorem reval_is (At : Option Addr) (ct : Nat) (ns : List S66) (root : Int) (ol ps : List Int) (hR : Rt ns root ol) (An : Option Addr) (cn : Nat) (nl : List NV) (Bm : Nat) (ok : Nat → Prop) (L : List (List Int)) :
  ∀ (f : Nat) (q : Int),0 ≤ q → q < ns.length → q < f → 20 ≤ kdOf ns q → kdOf ns q ≤ 27 → ∀ w,RwE At ct ns root ol ps An cn nl Bm ok L w →
  Calls Tryz.prog 23 #[.agg #[.slice At ns.length ct,.int .i64 root],.int .i64 q,.slice An nl.length cn,.pointer (some ⟨Bm,0,none⟩)] w fun e w' => e = .returned (.tuple #[.agg #[.int .i64 (evalF ns ol nl L f q).1,.int .i64 (evalF ns ol nl L f q).2.1],.int .i64 (evalF ns ol nl L f q).2.2]) ∧ Below w.heap.size w w'
 | 0,q,h0,h1,hf,_,_,w,_ => by omega
 | f + 1,q,h0,h1,hf,hk1,hk2,w,hW => by
  have hx:=ex_kids hR.ok h0 h1 hk1 hk2
  exact reval_step At ct ns root ol ps An cn nl Bm ok L (evalF ns ol nl L f) q h0 h1 hk1 hk2 hx.1 ⟨fun h => (zCC hR.ok h0 h1 (by omega)).1,fun h => (zDt hR.ok h0 h1 (by omega)).1⟩ (fun kid hkid w' hW' => by
   have hd:=hR.dn h0 h1 kid hkid
   exact reval_is At ct ns root ol ps hR An cn nl Bm ok L f kid hd.1 (by omega) (by omega) (hx.2 kid hkid).1 (hx.2 kid hkid).2 w' hW') w hW _ rfl
def Vok (At : Option Addr) (ct : Nat) (ns : List S66) (root : Int) (An : Option Addr) (cn : Nat) (Am : Option Addr) (cm : Nat) (n : Nat) (Bh Bm : Nat) (w : World) (q : Int) : Prop:=∃ v : Int × Int × Int,
 (∀ W,Below w.heap.size w W → Calls Tryz.prog 8 #[.agg #[.slice At ns.length ct,.int .i64 root],.int .i64 q,.slice An n cn,.pointer (some ⟨Bh,0,none⟩)] W fun e w' => e = .returned (.tuple #[.agg #[.int .i64 v.1,.int .i64 v.2.1],.int .i64 v.2.2]) ∧ Below W.heap.size W w') ∧
 (∀ W,Below w.heap.size w W → Calls Tryz.prog 9 #[.agg #[.slice At ns.length ct,.int .i64 root],.int .i64 q,.slice Am n cm,.pointer (some ⟨Bm,0,none⟩)] W fun e w' => e = .returned (.tuple #[.agg #[.int .i64 v.1,.int .i64 v.2.1],.int .i64 v.2.2]) ∧ Below W.heap.size W w')
theorem both_is (At : Option Addr) (ct : Nat) (ns : List S66) (root : Int) (hsm : Sm ns) (An : Option Addr) (cn : Nat) (Am : Option Addr) (cm : Nat) (nl : List NV) (Bh Bm : Nat) (okh okm : Nat → Prop) (L : List (List Int)) (w : World) (hC : Kd.C k66 w At ns.length ns) (hct : ns.length ≤ ct) (hE : Env w)
  (hN : Kd.C kNV w An nl.length nl) (hcn : nl.length ≤ cn) (hM : Kd.C kNV w Am nl.length nl) (hcm : nl.length ≤ cm) (hnl : nl.length ≤ 1000000) (hH : HA w Bh okh L) (hK : HR w Bm okm L) (hL : cellsOf L ≤ 262144) (q : Int) : Vok At ct ns root An cn Am cm nl.length Bh Bm w q:=by
 rcases rt_cases ns root (fun x hx => by have:=(hsm.kt x hx).2; omega) with h | ⟨h,ol,hR⟩
 ·refine ⟨(0,0,0),fun W hb => zDo At ct ns root false An nl.length cn Bh q (0,0,0) W (Kd.C_below hC hb) (fun W' hb' => (Check_no At ct ns root h W' (Kd.C_below hC (zAd hb hb')) hct (hE.below (zAd hb hb') hE.six)).mono (fun _ _ ⟨h1,h2⟩ => ⟨0,1,h1,Lib.hid ⟨fun h => absurd h (by decide),fun h => absurd h (by decide)⟩,h2⟩)) (.inr ⟨fun h => absurd h.1 (by decide),rfl⟩),
   fun W hb => zCY At ct ns root false Am nl.length cm Bm q (0,0,0) W (Kd.C_below hC hb) (fun W' hb' => (rCheck_no At ct ns root W' (fun W2 hb2 => rright_is At ct ns root false h hsm W2 (Kd.C_below hC (zAd (zAd hb hb') hb2)) hct)).mono (fun _ _ ⟨h1,h2⟩ => ⟨0,1,h1,Lib.hid ⟨fun h => absurd h (by decide),fun h => absurd h (by decide)⟩,h2⟩)) (.inr ⟨fun h => absurd h.1 (by decide),rfl⟩)⟩
 ·have HRW:=fun (W : World) (hb : Below w.heap.size w W) => rw_of At ct ns root ol hR hsm W (Kd.C_below hC hb) hct
  have HRT : ∀ W,Below w.heap.size w W → RightC At ct ns root true W:=fun W hb W2 hb2 => rright_is At ct ns root true h hsm W2 (Kd.C_below hC (zAd hb hb2)) hct
  have HC1 : ∀ W,Below w.heap.size w W → CkC 20 At ct ns root (decide (chkF ns ol = 0)) W:=fun W hb W' hb' => (Check_yes At ct ns root ol hR h W' (Kd.C_below hC (zAd hb hb')) hct (hE.below (zAd hb hb') hE.six)).mono (fun _ _ ⟨a,h1,h2⟩ => ⟨a,_,h1,Lib.hid decide_eq_true_iff.symm,h2⟩)
  have HC2 : ∀ W,Below w.heap.size w W → CkC 22 At ct ns root (decide (chkF ns ol = 0)) W:=fun W hb W' hb' => (rCheck_yes At ct ns root ol _ W' (HRW W' (zAd hb hb')) (HRT W' (zAd hb hb'))).mono (fun _ _ ⟨a,c,h1,h2,h3⟩ => ⟨a,c,h1,Lib.hid (h2.out.trans decide_eq_true_iff.symm),h3⟩)
  have HW1 : ∀ W,Below w.heap.size w W → EvW At ct ns An cn nl Bh okh L W:=fun W hb => ⟨Kd.C_below hC hb,hct,Kd.C_below hN hb,hcn,hnl,hH.below hb,hL,hE.below hb hE.six⟩
  have HW2 : ∀ W,Below w.heap.size w W → RwE At ct ns root ol (parsOf ns) Am cm nl Bm okm L W:=fun W hb => ⟨HRW W hb,HRT W hb,Kd.C_below hM hb,hcm,hnl,hK.below hb,hL⟩
  by_cases hx : decide (chkF ns ol = 0) = true ∧ ExIn ns q
  ·obtain ⟨hg,hx0⟩:=hx
   obtain ⟨h0,h1,hk1,hk2⟩:=id hx0
   exact ⟨evalF ns ol nl L ns.length q,fun W hb => zDo At ct ns root _ An nl.length cn Bh q _ W (Kd.C_below hC hb) (HC1 W hb) (.inl ⟨hg,hx0,fun W' hb' => eval_is At ct ns root ol hR h An cn nl Bh okh L ns.length q h0 h1 h1 hk1 hk2 W' (HW1 W' (zAd hb hb'))⟩),
    fun W hb => zCY At ct ns root _ Am nl.length cm Bm q _ W (Kd.C_below hC hb) (HC2 W hb) (.inl ⟨hg,hx0,fun W' hb' => reval_is At ct ns root ol _ hR Am cm nl Bm okm L ns.length q h0 h1 h1 hk1 hk2 W' (HW2 W' (zAd hb hb'))⟩)⟩
  ·exact ⟨(0,0,0),fun W hb => zDo At ct ns root _ An nl.length cn Bh q _ W (Kd.C_below hC hb) (HC1 W hb) (.inr ⟨hx,rfl⟩),fun W hb => zCY At ct ns root _ Am nl.length cm Bm q _ W (Kd.C_below hC hb) (HC2 W hb) (.inr ⟨hx,rfl⟩)⟩
attribute [local go_sem] zAP zAQ max_two min_two zAK zAJ zAS zAR
def zAz.f (a0 : Int) : Option (Int × Int):=some (1,a0)
theorem zAz.calls (a0 : Int) (r1 : Int) (r2 : Int) (w : World) (h : zAz.f a0 = some (r1,r2)) :
  Calls Tryz.prog 11 #[.int .i64 a0] w fun e w' => e = .returned (.agg #[.int .i64 r1,.int .i64 r2]) ∧ Below w.heap.size w w':=by
 have hu43:=Tryz.underlying43
 have HB:=Aside0.mk (Below.refl w.heap.size w)
 have H : (some (1,a0)) = some (r1,r2):=h
 clear h
 simp only [Option.some.injEq,Prod.mk.injEq] at H
 obtain ⟨rfl,rfl⟩:=H
 go_enter Tryz.func11,Tryz.ntmps11
 go_wp2_with (first | ((with_reducible refine zAZ (N:=2) rfl ?_); refine zBa ?hg (N:=2) ?hd (cs:=#[.int .i64 0,.int .i64 0]) (t:=43) ?hr ?_; (case hd => rfl); (case hg => rfl); (case hr => first | (go_simp; done) | (go_simp; rfl)); intro gb150 hg w2 hbox hb; have n0_:=Aside0.mk (zAd (by repeat (first | (with_reducible first | exact HB.out | apply zAa | apply zAf | apply zAi) | exact HB.out)) hb); have n1_:=Aside0.mk (hbox); have n2_:=Aside0.mk ((by rw [hg]; exact (zAy (by repeat (first | (with_reducible first | exact HB.out | apply zAa | apply zAf | apply zAi) | exact HB.out))) : w.heap.size ≤ gb150)); have n3_:=Aside0.mk ((by rw [hg]; exact (zAy (by repeat (first | (with_reducible first | exact HB.out | apply zAa | apply zAf | apply zAi) | exact HB.out))) : w.heap.size ≤ gb150)); clear HB; have HB:=n0_; have BK150:=n1_; have GW150:=n2_; have GE150:=n3_; clear n0_ n1_ n2_ n3_; clear hb hbox hg; have hcz3_0 : w2.cell? ⟨gb150,0,none⟩ = some (.int .i64 0):=(zAh BK150.out 0).trans rfl; have hcz3_1 : w2.cell? ⟨gb150,1,none⟩ = some (.int .i64 0):=(zAh BK150.out 1).trans rfl; have hfz3_0:=zAc BK150.out 0; have hfz3_1:=zAc BK150.out 1))
 refine bodyPost_ret (results_cell_row rfl _ _ gb150 43 #[.int .i64 1,.int .i64 a0] (0,0) _ rfl (by (with_reducible repeat (first | apply zAo | apply zAl | apply zAj)); refine blk_put (cs:=#[.int .i64 1,.int .i64 0]) ?_ 1 _ rfl; (with_reducible repeat (first | apply zAo | apply zAl | apply zAj)); refine blk_put (cs:=#[.int .i64 0,.int .i64 0]) ?_ 0 _ rfl; (with_reducible repeat (first | apply zAo | apply zAl | apply zAj)); exact BK150.out) Tryz.underlying43 rfl (by kernel_rfl)) rfl ?_
 exact ⟨by first | rfl | (simp [zAs,zAt] <;> rfl) | (simp [*,zAs,zAt] <;> rfl),by repeat (first | (with_reducible first | exact HB.out | apply zAa | apply zAf | apply zAi | refine zAu ?_ GE150.out) | exact HB.out)⟩
end Go.Proofs.YtkhlfdcjgooogaaGreat.P
