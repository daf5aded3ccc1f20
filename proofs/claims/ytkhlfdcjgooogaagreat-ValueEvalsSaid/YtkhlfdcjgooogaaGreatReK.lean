import Derived.Test.YtkhlfdcjgooogaaGreatWMore
import Derived.Test.YtkhlfdcjgooogaaGreatReI
import Derived.Test.YtkhlfdcjgooogaaGreatTyI
set_option maxRecDepth 100000
set_option maxHeartbeats 16000000
set_option linter.unusedVariables false
set_option linter.unusedSimpArgs false
set_option linter.unusedSectionVars false
namespace Go.Proofs.YtkhlfdcjgooogaaGreat.P
open Go.RowKit Go.Proofs.YtkhlfdcjgooogaaGreatW.PrintWords Go.Proofs.YtkhlfdcjgooogaaGreatW.PrintLast Go.Proofs.YtkhlfdcjgooogaaGreatW.PrintMore
def oprR (ns : List S66) (ol : List Int) (s : Nm) (kl : List Int) : Bool :=
 if eqB s = true then (exprF ns ol (rd kl 0) == exprF ns ol (rd kl 1)) && (exprF ns ol (rd kl 0) == 1 || exprF ns ol (rd kl 0) == 2) else if boolB s = true then allF ns ol 2 kl else allF ns ol 1 kl
theorem opr_eq (ns : List S66) (ol : List Int) (s : Nm) (kl : List Int) (h : eqB s = true → kl.length = 2) : oprR ns ol s kl = operandsF ns ol s kl:=by
 unfold oprR operandsF
 cases he : eqB s with
 | false => simp
 | true =>
  have hb : boolB s = false:=by
   unfold eqB at he
   unfold boolB
   rcases Bool.or_eq_true_iff.1 he with e | e <;> (rw [eq_of_beq e]; rfl)
  rw [hb,if_pos rfl,if_neg (by decide),if_pos rfl]
  match kl,h he with
  | [a,b],_ =>
   show ((exprF ns ol a == exprF ns ol b) && (exprF ns ol a == 1 || exprF ns ol a == 2)) = (((exprF ns ol a == 1) && ((exprF ns ol b == 1) && true)) || ((exprF ns ol a == 2) && ((exprF ns ol b == 2) && true)))
   generalize exprF ns ol a = x
   generalize exprF ns ol b = y
   by_cases h1 : x = 1
   ·subst h1
    by_cases h2 : y = 1
    ·subst h2; rfl
    ·have e1 : (1 == y) = false:=beq_eq_false_iff_ne.2 (fun h => h2 h.symm)
     have e2 : (y == 1) = false:=beq_eq_false_iff_ne.2 h2
     rw [e1,e2]; rfl
   ·have e1 : (x == 1) = false:=beq_eq_false_iff_ne.2 h1
    rw [e1]
    by_cases h2 : x = 2
    ·subst h2
     by_cases h3 : y = 2
     ·subst h3; rfl
     ·have e1 : ((2 : Int) == y) = false:=beq_eq_false_iff_ne.2 (fun h => h3 h.symm)
      have e2 : (y == 2) = false:=beq_eq_false_iff_ne.2 h3
      rw [e1,e2]; rfl
    ·have e2 : (x == 2) = false:=beq_eq_false_iff_ne.2 h2
     rw [e2]; simp
theorem among_bool (tx : ByteArray) : amongB [⟨#[33]⟩,⟨#[38,38]⟩,⟨#[124,124]⟩] tx = boolB tx.data.toList:=by
 obtain ⟨l,hl⟩ : ∃ l,l = tx.data.toList:=⟨_,rfl⟩
 unfold amongB boolB
 rw [← hl]
 have key : ∀ c : List UInt8,decide (c = l) = (l == c):=fun c => by
  by_cases h : c = l
  ·subst h; simp
  ·rw [decide_eq_false h]; exact (beq_eq_false_iff_ne.2 (fun e => h e.symm)).symm
 simp only [List.any_cons,List.any_nil,Bool.or_false]
 rw [key,key,key]
 simp only [Bool.or_assoc]
theorem node_box (At : Option Addr) (n ct : Nat) (root : Int) (nd : Array Value) (w W : World) (hW : W = (w.alloc (.cells #[.slice At n ct,.int .i64 root] 24)).alloc (.cells nd 66)) :
  Below w.heap.size w W ∧ W.heap[w.heap.size]? = some (.cells #[.slice At n ct,.int .i64 root] 24 (0,0)) ∧ W.heap[w.heap.size + 1]? = some (.cells nd 66 (0,0)):=by
 have e : (w.alloc (.cells #[.slice At n ct,.int .i64 root] 24)).heap.size = w.heap.size + 1:=by simp
 subst hW
 exact ⟨zAa (zAa (Below.refl _ _) _) _,zAj (blk_new w _) _,by rw [← e]; exact heap_alloc_new _ _⟩
theorem roperator_is (At : Option Addr) (ct : Nat) (ns : List S66) (root : Int) (ol ps : List Int) (k n at_ : Int) (tx : ByteArray) (A4 : Option Addr) (c4 : Nat) (kl : List Int) (hkn : ∀ k ∈ kl,0 ≤ k ∧ k < ns.length) (hkl4 : kl.length ≤ 4000) (h2 : eqB tx.data.toList = true → kl.length = 2) (w : World) (hW : RW At ct ns root ol ps w) (hCk : Kd.C (Kd.int .i64) w A4 kl.length kl) (hkl : kl.length ≤ c4) :
  Calls Tryz.prog 86 #[.agg #[.slice At ns.length ct,.int .i64 root],.agg #[.int .i64 k,.int .i64 n,.int .i64 at_,.string tx,.slice A4 kl.length c4]] w fun e w' => e = .returned (.bool (oprR ns ol tx.data.toList kl)) ∧ Below w.heap.size w w':=by
 obtain ⟨W1,hW1⟩ : ∃ W1,W1 = (w.alloc (.cells #[.slice At ns.length ct,.int .i64 root] 24)).alloc (.cells #[.int .i64 k,.int .i64 n,.int .i64 at_,.string tx,.slice A4 kl.length c4] 66):=⟨_,rfl⟩
 obtain ⟨hb1,x1,n1⟩:=node_box At ns.length ct root #[.int .i64 k,.int .i64 n,.int .i64 at_,.string tx,.slice A4 kl.length c4] w W1 hW1
 have HB1:=Lib.hid hb1
 have X1:=Lib.hid x1
 have N1:=Lib.hid n1
 have HW1:=Lib.hid hW1
 have HTY:=Lib.hid (fun (p : Int) (p0 : 0 ≤ p) (p1 : p < ns.length) (W : World) (hb : Below w.heap.size w W) => zCE At ct ns root ol ps p p0 p1 W (hW.below hb))
 have HAL:=Lib.hid (fun (kind : Int) (W : World) (hb : Below w.heap.size w W) => rall_is At ct ns root ol ps A4 c4 kl hkn hkl4 kind W (hW.below hb) (Kd.C_below hCk hb) hkl)
 have HCK:=Lib.hid hCk
 have HKN:=Lib.hid hkn
 have c0:=bc_ X1.out 0
 have c1:=bc_ X1.out 1
 have n3:=bc_ N1.out 3
 have n4:=bc_ N1.out 4
 rw [HW1.out] at n3
 have hop : oprR ns ol tx.data.toList kl = if eqB tx.data.toList = true then (exprF ns ol (rd kl 0) == exprF ns ol (rd kl 1)) && (exprF ns ol (rd kl 0) == 1 || exprF ns ol (rd kl 0) == 2) else if boolB tx.data.toList = true then allF ns ol 2 kl else allF ns ol 1 kl:=rfl
 obtain ⟨r,hr⟩ : ∃ r,r = oprR ns ol tx.data.toList kl:=⟨_,rfl⟩
 rw [← hr] at hop ⊢
 have hE : eqB tx.data.toList = (tx.toList == [61,61] || tx.toList == [33,61]):=by rw [zAI]; rfl
 have hAM : ∀ W,Kd.C Kd.string W (some ⟨W1.heap.size,0,none⟩) 3 [⟨#[33]⟩,⟨#[38,38]⟩,⟨#[124,124]⟩] → Calls Tryz.prog 118 #[.slice (some ⟨W1.heap.size,0,none⟩) 3 3,.string tx] W fun e w' => e = .returned (.bool (boolB tx.data.toList)) ∧ Below W.heap.size W w':=fun W h => by
  have:=among_is (some ⟨W1.heap.size,0,none⟩) 3 [⟨#[33]⟩,⟨#[38,38]⟩,⟨#[124,124]⟩] tx (by decide) W h (by decide)
  rw [among_bool] at this
  exact this
 have HAM:=Lib.hid hAM
 obtain ⟨bb,hbb⟩ : ∃ bb,bb = boolB tx.data.toList:=⟨_,rfl⟩
 rw [← hbb] at hop HAM
 cases he : eqB tx.data.toList with
 | true =>
  have hl:=h2 he
  obtain ⟨adK,eK,y0⟩:=Kd.at_int (Kd.C_below hCk hb1) 0 (by omega) (by omega)
  obtain ⟨adK',eK',y1⟩:=Kd.at_int (Kd.C_below hCk hb1) 1 (by omega) (by omega)
  have i0 : rd kl 0 ∈ kl:=by match kl,hl with | [a,b],_ => simp [rd]
  have i1 : rd kl 1 ∈ kl:=by match kl,hl with | [a,b],_ => simp [rd]
  have k0:=hkn _ i0
  have k1:=hkn _ i1
  rw [he,if_pos rfl] at hop
  have HX0:=Lib.hid (HTY.out (rd kl 0) k0.1 k0.2)
  have HX1:=Lib.hid (HTY.out (rd kl 1) k1.1 k1.2)
  obtain ⟨v0,hv0⟩ : ∃ v,v = rd kl 0:=⟨_,rfl⟩
  obtain ⟨v1,hv1⟩ : ∃ v,v = rd kl 1:=⟨_,rfl⟩
  rw [← hv0] at y0 HX0 hop
  rw [← hv1] at y1 HX1 hop
  obtain ⟨a,ha⟩ : ∃ a,a = exprF ns ol v0:=⟨_,rfl⟩
  obtain ⟨b,hb⟩ : ∃ b,b = exprF ns ol v1:=⟨_,rfl⟩
  rw [← ha] at HX0 hop
  rw [← hb] at HX1 hop
  have HV:=Lib.hid hop
  rw [eK] at eK'
  cases eK'
  cases eK
  have j0 : (0 < kl.length) = True:=eq_true (by omega)
  have j1 : ((1 : Int) < (kl.length : Int)) = True:=eq_true (by omega)
  have y1 : W1.cell? ⟨adK.block,adK.off + 1,none⟩ = some (.int .i64 v1):=y1
  have y0 : W1.cell? adK = some (.int .i64 v0):=by
   have e : adK.add (0 : Int).toNat = adK:=by obtain ⟨b,o,n⟩:=adK; cases n <;> simp [Addr.add]
   rw [e] at y0
   exact y0
  rw [he] at hE
  clear HTY HAL hr hbb hW hCk hkn h2 hb1 x1 n1 hW1 he hAM HAM hop ha hb hv0 hv1 i0 i1 k0 k1 hl
  have hE2 : (tx.toList == [61,61]) = true ∨ ((tx.toList == [61,61]) = false ∧ (tx.toList == [33,61]) = true):=by
   cases h : tx.toList == [61,61] with
   | true => exact .inl rfl
   | false => rw [h] at hE; exact .inr ⟨rfl,hE.symm⟩
  clear hE
  rcases hE2 with ta | ⟨ta,tb⟩ <;> (
   go_enter Tryz.func86,Tryz.ntmps86
   go_wp2_with fail
   rw [← HW1.out]
   refine start_ (n:=7) (S:=fun w' => w'.cell? ⟨w.heap.size,0,none⟩ = some (.slice At ns.length ct) ∧ w'.cell? ⟨w.heap.size,1,none⟩ = some (.int .i64 root) ∧ w'.cell? ⟨w.heap.size + 1,4,none⟩ = some (.slice (some adK) kl.length c4) ∧ w'.cell? adK = some (.int .i64 v0) ∧ w'.cell? ⟨adK.block,adK.off + 1,none⟩ = some (.int .i64 v1)) (ds:=[]) #[false,false,false,false,false,false,false] (by kernel_rfl) rfl rfl ⟨zAg c0,zAg c1,zAg n4,zAg y0,zAg y1⟩ (fun hHeld => ?_)
   refine pu_ 1 15 ?_
   refine ta_ 0 14 hHeld ?_
   refine ta_ 2 16 hHeld ?_
   refine pu_ 3 17 ?_
   refine ta_ 4 18 hHeld ?_
   refine on_ 5 (some 19) (fun K hK => ?_)
   refine gs_ Tryz.func87 #[.agg #[.slice At ns.length ct,.int .i64 root],.int .i64 v0] ?_
   with_reducible refine (HX0.out W1.drew (zAk HB1.out)).mono ?_
   rintro e_ w6 ⟨rfl,hb_⟩
   refine ⟨_,rfl,?_⟩
   have HBw6:=Lib.hid (zAd (zAk HB1.out) hb_)
   have qw60:=zAb hb_ (zAg c0)
   have qw61:=zAb hb_ (zAg c1)
   have qw62:=zAb hb_ (zAg n4)
   have qw63:=zAb hb_ (zAg y0)
   have qw64:=zAb hb_ (zAg y1)
   clear hb_
   refine hK.out _ _ ⟨qw60,qw61,qw62,qw63,qw64⟩ (fun hHeld => ?_)
   clear hK K
   refine no_ ?_
   refine pu_ 6 5 ?_
   refine done_ (by kernel_rfl) ?_
   go_wp2_with fail
   by_cases hab : a = b
   ·subst hab
    by_cases ha1 : a = 1
    ·subst ha1
     refine start_ (n:=17) (S:=fun w' => w'.cell? ⟨w.heap.size,0,none⟩ = some (.slice At ns.length ct) ∧ w'.cell? ⟨w.heap.size,1,none⟩ = some (.int .i64 root) ∧ w'.cell? ⟨w.heap.size + 1,4,none⟩ = some (.slice (some adK) kl.length c4) ∧ w'.cell? adK = some (.int .i64 v0) ∧ w'.cell? ⟨adK.block,adK.off + 1,none⟩ = some (.int .i64 v1)) (ds:=[]) #[false,false,false,false,false,false,false,false,false,false,false,false,false,false,false,false,false] (by kernel_rfl) rfl rfl ⟨zAg qw60,zAg qw61,zAg qw62,zAg qw63,zAg qw64⟩ (fun hHeld => ?_)
     refine pu_ 0 20 ?_
     refine pu_ 2 22 ?_
     refine ta_ 1 21 hHeld ?_
     refine ta_ 3 23 hHeld ?_
     refine pu_ 4 24 ?_
     refine ta_ 5 25 hHeld ?_
     refine on_ 6 (some 26) (fun K hK => ?_)
     refine gs_ Tryz.func87 #[.agg #[.slice At ns.length ct,.int .i64 root],.int .i64 v1] ?_
     with_reducible refine (HX1.out w6.drew (zAk HBw6.out)).mono ?_
     rintro e_ w7 ⟨rfl,hb_⟩
     refine ⟨_,rfl,?_⟩
     have HBw7:=Lib.hid (zAd (zAk HBw6.out) hb_)
     have qw70:=zAb hb_ (zAg qw60)
     have qw71:=zAb hb_ (zAg qw61)
     have qw72:=zAb hb_ (zAg qw62)
     have qw73:=zAb hb_ (zAg qw63)
     have qw74:=zAb hb_ (zAg qw64)
     clear hb_
     refine hK.out _ _ ⟨qw70,qw71,qw72,qw73,qw74⟩ (fun hHeld => ?_)
     clear hK K
     refine no_ ?_
     refine pu_ 7 27 ?_
     refine pu_ 8 28 ?_
     refine pu_ 9 29 ?_
     refine pu_ 10 30 ?_
     refine pu_ 11 31 ?_
     refine pn_ 12 32 ?_
     refine pn_ 13 33 ?_
     refine pu_ 14 34 ?_
     refine pu_ 15 35 ?_
     refine pu_ 16 4 ?_
     refine done_ (by kernel_rfl) ?_
     go_wp2_with fail
     go_ret
     exact ⟨by rw [HV.out]; first | rfl | simp [*],HBw7.out⟩
    ·have ha1b : (a == 1) = false:=beq_eq_false_iff_ne.2 ha1
     refine start_ (n:=17) (S:=fun w' => w'.cell? ⟨w.heap.size,0,none⟩ = some (.slice At ns.length ct) ∧ w'.cell? ⟨w.heap.size,1,none⟩ = some (.int .i64 root) ∧ w'.cell? ⟨w.heap.size + 1,4,none⟩ = some (.slice (some adK) kl.length c4) ∧ w'.cell? adK = some (.int .i64 v0) ∧ w'.cell? ⟨adK.block,adK.off + 1,none⟩ = some (.int .i64 v1)) (ds:=[]) #[false,false,false,false,false,false,false,false,false,false,false,false,false,false,false,false,false] (by kernel_rfl) rfl rfl ⟨zAg qw60,zAg qw61,zAg qw62,zAg qw63,zAg qw64⟩ (fun hHeld => ?_)
     refine pu_ 0 20 ?_
     refine pu_ 2 22 ?_
     refine ta_ 1 21 hHeld ?_
     refine ta_ 3 23 hHeld ?_
     refine pu_ 4 24 ?_
     refine ta_ 5 25 hHeld ?_
     refine on_ 6 (some 26) (fun K hK => ?_)
     refine gs_ Tryz.func87 #[.agg #[.slice At ns.length ct,.int .i64 root],.int .i64 v1] ?_
     with_reducible refine (HX1.out w6.drew (zAk HBw6.out)).mono ?_
     rintro e_ w7 ⟨rfl,hb_⟩
     refine ⟨_,rfl,?_⟩
     have HBw7:=Lib.hid (zAd (zAk HBw6.out) hb_)
     have qw70:=zAb hb_ (zAg qw60)
     have qw71:=zAb hb_ (zAg qw61)
     have qw72:=zAb hb_ (zAg qw62)
     have qw73:=zAb hb_ (zAg qw63)
     have qw74:=zAb hb_ (zAg qw64)
     clear hb_
     refine hK.out _ _ ⟨qw70,qw71,qw72,qw73,qw74⟩ (fun hHeld => ?_)
     clear hK K
     refine no_ ?_
     refine pu_ 7 27 ?_
     refine pu_ 8 28 ?_
     refine pu_ 9 29 ?_
     refine pu_ 10 30 ?_
     refine pu_ 11 31 ?_
     refine pu_ 12 32 ?_
     refine pu_ 13 33 ?_
     refine pu_ 14 34 ?_
     refine pu_ 15 35 ?_
     refine pu_ 16 4 ?_
     refine done_ (by kernel_rfl) ?_
     go_wp2_with fail
     go_ret
     exact ⟨by rw [HV.out]; first | rfl | simp [*],HBw7.out⟩
   ·have habb : (a == b) = false:=beq_eq_false_iff_ne.2 hab
    refine start_ (n:=17) (S:=fun w' => w'.cell? ⟨w.heap.size,0,none⟩ = some (.slice At ns.length ct) ∧ w'.cell? ⟨w.heap.size,1,none⟩ = some (.int .i64 root) ∧ w'.cell? ⟨w.heap.size + 1,4,none⟩ = some (.slice (some adK) kl.length c4) ∧ w'.cell? adK = some (.int .i64 v0) ∧ w'.cell? ⟨adK.block,adK.off + 1,none⟩ = some (.int .i64 v1)) (ds:=[]) #[false,false,false,false,false,false,false,false,false,false,false,false,false,false,false,false,false] (by kernel_rfl) rfl rfl ⟨zAg qw60,zAg qw61,zAg qw62,zAg qw63,zAg qw64⟩ (fun hHeld => ?_)
    refine pu_ 0 20 ?_
    refine pu_ 2 22 ?_
    refine ta_ 1 21 hHeld ?_
    refine ta_ 3 23 hHeld ?_
    refine pu_ 4 24 ?_
    refine ta_ 5 25 hHeld ?_
    refine on_ 6 (some 26) (fun K hK => ?_)
    refine gs_ Tryz.func87 #[.agg #[.slice At ns.length ct,.int .i64 root],.int .i64 v1] ?_
    with_reducible refine (HX1.out w6.drew (zAk HBw6.out)).mono ?_
    rintro e_ w7 ⟨rfl,hb_⟩
    refine ⟨_,rfl,?_⟩
    have HBw7:=Lib.hid (zAd (zAk HBw6.out) hb_)
    have qw70:=zAb hb_ (zAg qw60)
    have qw71:=zAb hb_ (zAg qw61)
    have qw72:=zAb hb_ (zAg qw62)
    have qw73:=zAb hb_ (zAg qw63)
    have qw74:=zAb hb_ (zAg qw64)
    clear hb_
    refine hK.out _ _ ⟨qw70,qw71,qw72,qw73,qw74⟩ (fun hHeld => ?_)
    clear hK K
    refine no_ ?_
    refine pu_ 7 27 ?_
    refine pu_ 8 28 ?_
    refine pn_ 9 29 ?_
    refine pn_ 10 30 ?_
    refine pn_ 11 31 ?_
    refine pn_ 12 32 ?_
    refine pn_ 13 33 ?_
    refine pn_ 14 34 ?_
    refine pu_ 15 35 ?_
    refine pu_ 16 4 ?_
    refine done_ (by kernel_rfl) ?_
    go_wp2_with fail
    go_ret
    exact ⟨by rw [HV.out]; first | rfl | simp [*],HBw7.out⟩)
 | false =>
  rw [he] at hE
  have ta : (tx.toList == [61,61]) = false:=by cases h : tx.toList == [61,61] with | false => rfl | true => rw [h] at hE; cases hE
  have tb : (tx.toList == [33,61]) = false:=by cases h : tx.toList == [33,61] with | false => rfl | true => rw [h,Bool.or_true] at hE; cases hE
  rw [he,if_neg (by decide)] at hop
  have HV:=Lib.hid hop
  have B2:=zAa HB1.out (.cells #[.string ⟨#[33]⟩,.string ⟨#[38,38]⟩,.string ⟨#[124,124]⟩] 9)
  have m3:=zAb (zAa (Below.refl W1.heap.size W1) (.cells #[.string ⟨#[33]⟩,.string ⟨#[38,38]⟩,.string ⟨#[124,124]⟩] 9)) (bc_ N1.out 3)
  have HA2:=Lib.hid (HAM.out (W1.alloc (.cells #[.string ⟨#[33]⟩,.string ⟨#[38,38]⟩,.string ⟨#[124,124]⟩] 9)) (C_strs _ _ _ (heap_alloc_new W1 _) (by decide)))
  have hz : W1.heap.size = w.heap.size + 1 + 1:=by rw [HW1.out]; simp
  rw [hz] at HA2
  have X2:=Lib.hid (zAj X1.out (.cells #[.string ⟨#[33]⟩,.string ⟨#[38,38]⟩,.string ⟨#[124,124]⟩] 9))
  have N2:=Lib.hid (zAj N1.out (.cells #[.string ⟨#[33]⟩,.string ⟨#[38,38]⟩,.string ⟨#[124,124]⟩] 9))
  obtain ⟨W2,hW2⟩ : ∃ W2,W2 = W1.alloc (.cells #[.string ⟨#[33]⟩,.string ⟨#[38,38]⟩,.string ⟨#[124,124]⟩] 9):=⟨_,rfl⟩
  rw [← hW2] at B2 HA2 m3 X2 N2
  rw [hW2,HW1.out] at m3
  rw [HW1.out] at hW2
  have HB2:=Lib.hid B2
  have HW2:=Lib.hid hW2
  obtain ⟨r1,hr1⟩ : ∃ r,r = allF ns ol 1 kl:=⟨_,rfl⟩
  obtain ⟨r2,hr2⟩ : ∃ r,r = allF ns ol 2 kl:=⟨_,rfl⟩
  have HA1:=Lib.hid (HAL.out 1)
  have HA22:=Lib.hid (HAL.out 2)
  rw [← hr1] at HV HA1
  rw [← hr2] at HV HA22
  clear HTY HAL hr hbb hW hCk hkn h2 hb1 x1 n1 hW1 he hAM HAM hop hE c0 c1 n4 hW2 B2 hr1 hr2 hz
  go_enter Tryz.func86,Tryz.ntmps86
  go_wp2_with fail
  rw [← HW2.out]
  refine HA2.out.mono ?_
  rintro e_ W3 ⟨rfl,hb_⟩
  have HB3:=Lib.hid (zAd HB2.out hb_)
  have X3:=Lib.hid (zAe X2.out hb_)
  have N3:=Lib.hid (zAe N2.out hb_)
  clear hb_ m3 n3
  have c0:=bc_ X3.out 0
  have c1:=bc_ X3.out 1
  have n4:=bc_ N3.out 4
  cases bb
  ·go_wp2_with fail
   refine (HA1.out W3 HB3.out).mono ?_
   rintro e_ W4 ⟨rfl,hb_⟩
   have HB4:=Lib.hid (zAd HB3.out hb_)
   clear hb_ c0 c1 n4
   go_wp2_with fail
   go_ret
   exact ⟨by rw [HV.out]; rfl,HB4.out⟩
  ·go_wp2_with fail
   refine (HA22.out W3 HB3.out).mono ?_
   rintro e_ W4 ⟨rfl,hb_⟩
   have HB4:=Lib.hid (zAd HB3.out hb_)
   clear hb_ c0 c1 n4
   go_wp2_with fail
   go_ret
   exact ⟨by rw [HV.out]; rfl,HB4.out⟩
theorem rnamed_is (At : Option Addr) (ct : Nat) (ns : List S66) (root : Int) (ol ps : List Int) (q want kids : Int) (h0 : 0 ≤ q) (h1 : q < ns.length) (w : World) (hW : RW At ct ns root ol ps w) :
  Calls Tryz.prog 83 #[.agg #[.slice At ns.length ct,.int .i64 root],.int .i64 q,.int .i64 want,.int .i64 kids] w fun e w' => e = .returned (.int .i64 (namedF ns ol q ((want == 0 || kindF ns ol q (nmOf ns q) == want) && (kids == 0 || allF ns ol kids (rd_T66 ns q).f4)))) ∧ Below w.heap.size w w':=by
 obtain ⟨ad,A4,c4,k,n,at_,tx,kl,W1,rfl,hx0,cb,z0,z1,z2,z3,z4,hW1,hb1,x1,n1,hCk,hkl⟩:=zCx (ct:=ct) (root:=root) hW.hC h0 h1
 have hmem:=zAA ns q h0 h1
 have hkn:=(hW.hR.fit.2 _ hmem).1
 have hkl4:=(hW.hR.fit.2 _ hmem).2.1
 have hk0 : kdOf ns q = k:=by unfold kdOf; rw [hx0]
 have ht0 : nmOf ns q = tx.data.toList:=by unfold nmOf; rw [hx0]
 rw [hx0] at hkn hkl4
 dsimp only at hkn hkl4
 have HB1:=Lib.hid hb1
 have X1:=Lib.hid x1
 have N1:=Lib.hid n1
 have HW1:=Lib.hid hW1
 have HW:=Lib.hid hW
 have HCK:=Lib.hid hCk
 have e0:=eq_true h0
 have e1:=eq_true h1
 have c10:=bc_ X1.out 0
 have c11:=bc_ X1.out 1
 have n10:=bc_ N1.out 0
 have n13:=bc_ N1.out 3
 have n14:=bc_ N1.out 4
 rw [HW1.out] at c10 c11 n10 n13 n14
 rw [ht0,hx0]
 dsimp only
 have hnm : ∀ b : Bool,namedF ns ol q b = if meansF ns ol q tx.data.toList = -1 then 3 else if b = true then 0 else 5:=fun b => by unfold namedF; rw [ht0]
 rw [hnm]
 have HM:=Lib.hid (zCD (some ad) ct ns root ol ps q h0 h1 tx W1 (hW.below hb1))
 have HKD:=Lib.hid (fun (W : World) (hb : Below w.heap.size w W) => zDr (some ad) ct ns root ol ps q h0 h1 tx W (hW.below hb))
 have HAL:=Lib.hid (fun (W : World) (hb : Below w.heap.size w W) => rall_is (some ad) ct ns root ol ps A4 c4 kl hkn hkl4 kids W (hW.below hb) (Kd.C_below hCk hb) hkl)
 have hmr:=zBc ns ol q tx.data.toList
 obtain ⟨m,hm⟩ : ∃ m,m = meansF ns ol q tx.data.toList:=⟨_,rfl⟩
 obtain ⟨kk,hkk⟩ : ∃ kk,kk = kindF ns ol q tx.data.toList:=⟨_,rfl⟩
 obtain ⟨af,haf⟩ : ∃ af,af = allF ns ol kids kl:=⟨_,rfl⟩
 rw [← hm] at HM hmr
 rw [← hkk] at HKD
 rw [← haf] at HAL
 rw [← hm,← hkk,← haf]
 obtain ⟨R,hR⟩ : ∃ R : Int,R = if m = -1 then 3 else if ((want == 0 || kk == want) && (kids == 0 || af)) = true then 0 else 5:=⟨_,rfl⟩
 rw [← hR]
 have HV:=Lib.hid hR
 clear hR
 clear hW hx0 hmem hkn hkl4 hk0 ht0 hb1 x1 n1 hW1 hCk hnm hm hkk haf HW HCK n10
 go_enter Tryz.func83,Tryz.ntmps83
 go_wp2_with fail
 rw [← HW1.out]
 refine HM.out.mono ?_
 rintro e_ W2 ⟨rfl,hb_⟩
 have HB2:=Lib.hid (zAd HB1.out hb_)
 have X2:=Lib.hid (zAe X1.out hb_)
 have N2:=Lib.hid (zAe N1.out hb_)
 clear hb_ c10 c11 n13 n14
 by_cases hm1 : m = -1
 ·subst hm1
  go_wp2_with fail
  go_ret
  exact ⟨by rw [HV.out]; rfl,HB2.out⟩
 have hin:=hmr.resolve_left hm1
 have hno : ¬ m < 0:=by omega
 have c0:=bc_ X2.out 0
 have c1:=bc_ X2.out 1
 have n0:=bc_ N2.out 0
 have n3:=bc_ N2.out 3
 have n4:=bc_ N2.out 4
 by_cases hk : kids = 0
 ·subst hk
  by_cases hw : want = 0
  ·subst hw
   go_wp2_with fail
   go_ret
   exact ⟨by rw [HV.out,if_neg hm1]; first | rfl | simp [*],HB2.out⟩
  ·have hwb : (want == 0) = false:=beq_eq_false_iff_ne.2 hw
   have hwn : (want != 0) = true:=by rw [bne,hwb]; rfl
   go_wp2_with fail
   refine (HKD.out W2 HB2.out).mono ?_
   rintro e_ W3 ⟨rfl,hb_⟩
   have HB3:=Lib.hid (zAd HB2.out hb_)
   have X3:=Lib.hid (zAe X2.out hb_)
   have N3:=Lib.hid (zAe N2.out hb_)
   clear hb_ c0 c1 n0 n3 n4
   by_cases hkw : kk = want
   ·subst hkw
    go_wp2_with fail
    go_ret
    exact ⟨by rw [HV.out,if_neg hm1]; first | rfl | simp [*],HB3.out⟩
   ·have hkb : (kk == want) = false:=beq_eq_false_iff_ne.2 hkw
    have hkn : (kk != want) = true:=by rw [bne,hkb]; rfl
    go_wp2_with fail
    go_ret
    exact ⟨by rw [HV.out,if_neg hm1]; first | rfl | simp [*],HB3.out⟩
 ·have hkb : (kids == 0) = false:=beq_eq_false_iff_ne.2 hk
  go_wp2_with fail
  refine (HAL.out W2 HB2.out).mono ?_
  rintro e_ W3 ⟨rfl,hb_⟩
  have HB3:=Lib.hid (zAd HB2.out hb_)
  have X3:=Lib.hid (zAe X2.out hb_)
  have N3:=Lib.hid (zAe N2.out hb_)
  clear hb_ c0 c1 n0 n3 n4
  have c0:=bc_ X3.out 0
  have c1:=bc_ X3.out 1
  have n0:=bc_ N3.out 0
  have n3:=bc_ N3.out 3
  have n4:=bc_ N3.out 4
  cases af
  ·skip
   by_cases hw : want = 0
   ·subst hw
    go_wp2_with fail
    go_ret
    exact ⟨by rw [HV.out,if_neg hm1]; first | rfl | simp [*],HB3.out⟩
   ·have hwb : (want == 0) = false:=beq_eq_false_iff_ne.2 hw
    have hwn : (want != 0) = true:=by rw [bne,hwb]; rfl
    go_wp2_with fail
    refine (HKD.out W3 HB3.out).mono ?_
    rintro e_ W4 ⟨rfl,hb_⟩
    have HB4:=Lib.hid (zAd HB3.out hb_)
    have X4:=Lib.hid (zAe X3.out hb_)
    have N4:=Lib.hid (zAe N3.out hb_)
    clear hb_ c0 c1 n0 n3 n4
    by_cases hkw : kk = want
    ·subst hkw
     go_wp2_with fail
     go_ret
     exact ⟨by rw [HV.out,if_neg hm1]; first | rfl | simp [*],HB4.out⟩
    ·have hkb : (kk == want) = false:=beq_eq_false_iff_ne.2 hkw
     have hkn : (kk != want) = true:=by rw [bne,hkb]; rfl
     go_wp2_with fail
     go_ret
     exact ⟨by rw [HV.out,if_neg hm1]; first | rfl | simp [*],HB4.out⟩
  ·skip
   by_cases hw : want = 0
   ·subst hw
    go_wp2_with fail
    go_ret
    exact ⟨by rw [HV.out,if_neg hm1]; first | rfl | simp [*],HB3.out⟩
   ·have hwb : (want == 0) = false:=beq_eq_false_iff_ne.2 hw
    have hwn : (want != 0) = true:=by rw [bne,hwb]; rfl
    go_wp2_with fail
    refine (HKD.out W3 HB3.out).mono ?_
    rintro e_ W4 ⟨rfl,hb_⟩
    have HB4:=Lib.hid (zAd HB3.out hb_)
    have X4:=Lib.hid (zAe X3.out hb_)
    have N4:=Lib.hid (zAe N3.out hb_)
    clear hb_ c0 c1 n0 n3 n4
    by_cases hkw : kk = want
    ·subst hkw
     go_wp2_with fail
     go_ret
     exact ⟨by rw [HV.out,if_neg hm1]; first | rfl | simp [*],HB4.out⟩
    ·have hkb : (kk == want) = false:=beq_eq_false_iff_ne.2 hkw
     have hkn : (kk != want) = true:=by rw [bne,hkb]; rfl
     go_wp2_with fail
     go_ret
     exact ⟨by rw [HV.out,if_neg hm1]; first | rfl | simp [*],HB4.out⟩
end Go.Proofs.YtkhlfdcjgooogaaGreat.P
