import Derived.Test.YtkhlfdcjgooogaaGreatPf132
import Derived.Deep.CutBlock
import Derived.Laws.Cover1
set_option maxRecDepth 100000
set_option maxHeartbeats 16000000
set_option linter.unusedVariables false
set_option linter.unusedSimpArgs false
set_option linter.unusedSectionVars false
namespace Go.Proofs.YtkhlfdcjgooogaaGreat.P
open Go.RowKit Go.Proofs.YtkhlfdcjgooogaaGreatW.PrintWords Go.Proofs.YtkhlfdcjgooogaaGreatW.PrintLast Go.Proofs.YtkhlfdcjgooogaaGreatW.PrintMore
theorem rst_f (x : Int) : zAX.f x = some (stB x):=by
 unfold zAX.f stB
 by_cases h : x ≥ 7
 ·simp [h]
 ·rw [if_neg h]; simp; omega
theorem rex_f (x : Int) : zAV.f x = some (exB x):=by
 unfold zAV.f exB
 by_cases h : x ≥ 20
 ·simp [h]
 ·rw [if_neg h]; simp; omega
theorem st_is (x : Int) (w : World) : Calls Tryz.prog 130 #[.int .i64 x] w fun e w' => e = .returned (.bool (stB x)) ∧ Below w.heap.size w w':=(zAX.calls x _ w (rst_f x)).mono (fun _ _ ⟨h1,h2⟩ => ⟨h1,h2.below⟩)
theorem ex_is (x : Int) (w : World) : Calls Tryz.prog 132 #[.int .i64 x] w fun e w' => e = .returned (.bool (exB x)) ∧ Below w.heap.size w w':=(zAV.calls x _ w (rex_f x)).mono (fun _ _ ⟨h1,h2⟩ => ⟨h1,h2.below⟩)
theorem rallx_is (A : Option Addr) (c : Nat) (L : List Int) (hL : L.length ≤ 4000) (w : World) (hC : Kd.C (Kd.int .i64) w A L.length L) (hc : L.length ≤ c) :
  Calls Tryz.prog 131 #[.slice A L.length c] w fun e w' => e = .returned (.bool (L.all exB)) ∧ Below w.heap.size w w':=by
 have HC:=Lib.hid hC
 clear hC
 go_enter Tryz.func131,Tryz.ntmps131
 go_wp2_with fail
 go_loopg [3] (L.length + 1) (fun kq v3 W => ∃ i : Nat,v3 = .int .i64 i ∧ i ≤ L.length ∧ Hid (i + kq = L.length + 1) ∧ Hid (L.all exB = (L.drop i).all exB) ∧ Hid (Below w.heap.size w W))
 case atStart => exact ⟨0,rfl,Nat.zero_le _,Lib.hid (by omega),Lib.hid (by rw [List.drop_zero]),Lib.hid (Below.refl _ _)⟩
 case round =>
  obtain ⟨i,rfl,hi,HN,HO,HB⟩:=hrel
  by_cases hlt : i < L.length
  ·obtain ⟨adK,eK,y0⟩:=kid_at (Kd.C_below HC.out HB.out) i hlt
   have hst : (L.drop i).all exB = (exB L[i] && (L.drop (i + 1)).all exB):=by rw [List.drop_eq_getElem_cons hlt,List.all_cons]
   obtain ⟨x,hx⟩ : ∃ x,x = L[i]:=⟨_,rfl⟩
   rw [← hx] at y0 hst
   have HX:=Lib.hid (ex_is x wr)
   have HST:=Lib.hid (HO.out.trans hst)
   cases eK
   clear hst hx HO
   cases hp : exB x with
   | true =>
    rw [hp] at HX
    have HST2:=Lib.hid (by have h:=HST.out; rw [hp,Bool.true_and] at h; exact h : L.all exB = (L.drop (i + 1)).all exB)
    clear hp HST
    go_wp2_with fail
    refine HX.out.mono ?_
    rintro e_ W2 ⟨rfl,hb_⟩
    have HB2:=Lib.hid (zAd HB.out hb_)
    clear hb_
    go_wp2_with fail
    go_roundg (gk - 1)
    case measure => have:=HN.out; omega
    case rel => exact ⟨i + 1,by norm_cast,hlt,Lib.hid (by have:=HN.out; omega),HST2,HB2⟩
   | false =>
    rw [hp] at HX
    have HST2:=Lib.hid (by have h:=HST.out; rw [hp,Bool.false_and] at h; exact h : L.all exB = false)
    clear hp HST
    go_wp2_with fail
    refine HX.out.mono ?_
    rintro e_ W2 ⟨rfl,hb_⟩
    have HB2:=Lib.hid (zAd HB.out hb_)
    clear hb_
    go_wp2_with fail
    go_ret
    exact ⟨by rw [HST2.out]; rfl,HB2.out⟩
  ·obtain rfl : i = L.length:=by omega
   have ho:=HO.out
   rw [List.drop_length] at ho
   have HO2:=Lib.hid ho
   clear ho HO
   go_wp2_with fail
   go_ret
   exact ⟨by rw [HO2.out]; rfl,HB.out⟩
theorem rz (a : Addr) : a.add 0 = a:=by obtain ⟨b,o,n⟩:=a; cases n <;> simp [Addr.add]
theorem rrises_is (A : Option Addr) (c0 : Nat) (L : List Int) (hL : L.length ≤ 1000) (a b c : Int) (w : World) (hC : Kd.C (Kd.int .i64) w A L.length L) (hc : L.length ≤ c0) :
  Calls Tryz.prog 129 #[.slice A L.length c0,.int .i64 a,.int .i64 b,.int .i64 c] w fun e w' => e = .returned (.bool (riseE L c (tw b L (tw a L 0)))) ∧ Below w.heap.size w w':=by
 have HC:=Lib.hid hC
 have H1 : Hid (∀ i,i ≤ L.length → tw a L i ≤ L.length):=Lib.hid (tw_le a L)
 have H2 : Hid (∀ i,i ≤ L.length → tw b L i ≤ L.length):=Lib.hid (tw_le b L)
 have T1:=Lib.hid (fun i hi h => tw_yes a L i hi hL h)
 have T2:=Lib.hid (fun i hi h => tw_yes b L i hi hL h)
 obtain ⟨i1,hi1⟩ : ∃ i,i = tw a L 0:=⟨_,rfl⟩
 obtain ⟨i2,hi2⟩ : ∃ i,i = tw b L i1:=⟨_,rfl⟩
 rw [← hi1,← hi2]
 have G1:=Lib.hid hi1
 have G2:=Lib.hid hi2
 have l1 : i1 ≤ L.length:=by rw [hi1]; exact tw_le a L 0 (Nat.zero_le _)
 have l2 : i2 ≤ L.length:=by rw [hi2]; exact tw_le b L i1 l1
 obtain ⟨r,hr⟩ : ∃ r,r = riseE L c i2:=⟨_,rfl⟩
 have hrr : riseE L c i2 = if c = 0 then (i2 : Int) == (L.length : Int) else if (i2 : Int) = (L.length : Int) - 1 then rd L (i2 : Int) == c else false:=rfl
 rw [← hr] at hrr ⊢
 have HR:=Lib.hid hrr
 have HB0:=Lib.hid (Below.refl w.heap.size w)
 have hw:=i64_id ((L.length : Int) - 1) (by omega) (by omega)
 clear hC hi1 hi2 hr hrr
 go_enter Tryz.func129,Tryz.ntmps129
 go_upto_block 0 with (fail)
 go_cut [9] (fun v9 wc => v9 = .int .i64 i1 ∧ Hid (Below w.heap.size w wc))
 case first =>
  go_wp2_with fail
  go_loopg [9] (L.length + 1) (fun kq v9 W => ∃ i : Nat,v9 = .int .i64 i ∧ i ≤ L.length ∧ Hid (i + kq ≥ 0 + L.length + 1 ∨ i + kq ≥ L.length + 1) ∧ Hid (i1 = tw a L i) ∧ Hid (Below w.heap.size w W))
  case atStart => exact ⟨0,(by first | rfl | simp),by omega,Lib.hid (by omega),G1,HB0⟩
  case round =>
   obtain ⟨i,rfl,hi,HN,HO,HB⟩:=hrel
   by_cases hlt : i < L.length
   ·obtain ⟨adK,eK,y0⟩:=kid_at (Kd.C_below HC.out HB.out) i hlt
    have hy:=T1.out i hlt
    have hn:=tw_no a L i hlt
    obtain ⟨x,hx⟩ : ∃ x,x = L[i]:=⟨_,rfl⟩
    rw [← hx] at y0 hy hn
    have HY:=Lib.hid hy
    have HNN:=Lib.hid hn
    cases eK
    clear hx hy hn
    by_cases hxa : x = a
    ·have HO2:=Lib.hid (HO.out.trans (HY.out hxa))
     have hxb : (x == a) = true:=beq_iff_eq.2 hxa
     subst hxa
     clear HY HNN HO
     go_wp2_with fail
     go_roundg (gk - 1)
     case measure => have:=HN.out; omega
     case rel => exact ⟨i + 1,by norm_cast,hlt,Lib.hid (by have:=HN.out; omega),HO2,HB⟩
    ·have hxb : (x == a) = false:=beq_eq_false_iff_ne.2 hxa
     have he : i1 = i:=HO.out.trans (HNN.out hxa)
     have HE:=Lib.hid he
     clear HY HNN HO he
     go_wp2_with fail
     go_meet
     case rel => exact ⟨by rw [HE.out],HB⟩
   ·have he : i1 = i:=HO.out.trans (tw_end a L i (by omega))
    have HE:=Lib.hid he
    clear HO he
    go_wp2_with fail
    go_meet
    case rel => exact ⟨by rw [HE.out],HB⟩
 case rest =>
 obtain ⟨rfl,HB1⟩:=hcut
 rename_i w1
 go_upto_block 2 with (fail)
 go_cut [9] (fun v9 wd => v9 = .int .i64 i2 ∧ Hid (Below w.heap.size w wd))
 case first =>
  go_wp2_with fail
  go_loopg [9] (L.length + 1) (fun kq v9 W => ∃ i : Nat,v9 = .int .i64 i ∧ i ≤ L.length ∧ Hid (i + kq ≥ i1 + L.length + 1 ∨ i + kq ≥ L.length + 1) ∧ Hid (i2 = tw b L i) ∧ Hid (Below w.heap.size w W))
  case atStart => exact ⟨i1,(by first | rfl | simp),by omega,Lib.hid (by omega),G2,HB1⟩
  case round =>
   obtain ⟨i,rfl,hi,HN,HO,HB⟩:=hrel
   by_cases hlt : i < L.length
   ·obtain ⟨adK,eK,y0⟩:=kid_at (Kd.C_below HC.out HB.out) i hlt
    have hy:=T2.out i hlt
    have hn:=tw_no b L i hlt
    obtain ⟨x,hx⟩ : ∃ x,x = L[i]:=⟨_,rfl⟩
    rw [← hx] at y0 hy hn
    have HY:=Lib.hid hy
    have HNN:=Lib.hid hn
    cases eK
    clear hx hy hn
    by_cases hxa : x = b
    ·have HO2:=Lib.hid (HO.out.trans (HY.out hxa))
     have hxb : (x == b) = true:=beq_iff_eq.2 hxa
     subst hxa
     clear HY HNN HO
     go_wp2_with fail
     go_roundg (gk - 1)
     case measure => have:=HN.out; omega
     case rel => exact ⟨i + 1,by norm_cast,hlt,Lib.hid (by have:=HN.out; omega),HO2,HB⟩
    ·have hxb : (x == b) = false:=beq_eq_false_iff_ne.2 hxa
     have he : i2 = i:=HO.out.trans (HNN.out hxa)
     have HE:=Lib.hid he
     clear HY HNN HO he
     go_wp2_with fail
     go_meet
     case rel => exact ⟨by rw [HE.out],HB⟩
   ·have he : i2 = i:=HO.out.trans (tw_end b L i (by omega))
    have HE:=Lib.hid he
    clear HO he
    go_wp2_with fail
    go_meet
    case rel => exact ⟨by rw [HE.out],HB⟩
 case rest =>
 obtain ⟨rfl,HB2⟩:=hcut
 by_cases h0 : c = 0
 ·have hv:=HR.out
  rw [if_pos h0] at hv
  have HV:=Lib.hid hv
  clear hv HR
  subst h0
  go_wp2_with fail
  go_ret
  exact ⟨by rw [HV.out]; rfl,HB2.out⟩
 ·have hv:=HR.out
  rw [if_neg h0] at hv
  have h0b : (c != 0) = true:=by simpa using h0
  by_cases h1 : (i2 : Int) = (L.length : Int) - 1
  ·rw [if_pos h1] at hv
   have hlt : i2 < L.length:=by omega
   obtain ⟨adK,eK,y0⟩:=kid_at (Kd.C_below HC.out HB2.out) i2 hlt
   rw [rdN L i2 hlt] at hv
   obtain ⟨v,hvv⟩ : ∃ v,v = L[i2]:=⟨_,rfl⟩
   rw [← hvv] at y0 hv
   have HV:=Lib.hid hv
   have h1b : ((i2 : Int) == (L.length : Int) - 1) = true:=beq_iff_eq.2 h1
   have HH:=Lib.hid h1
   cases eK
   clear hv hvv HR h1
   go_wp2_with fail
   go_ret
   exact ⟨by rw [HV.out]; rfl,HB2.out⟩
  ·rw [if_neg h1] at hv
   have HV:=Lib.hid hv
   have h1b : ((i2 : Int) == (L.length : Int) - 1) = false:=beq_eq_false_iff_ne.2 h1
   clear hv HR
   go_wp2_with fail
   go_ret
   exact ⟨by rw [HV.out]; rfl,HB2.out⟩
theorem rkids_is (k : Int) (A : Option Addr) (c : Nat) (L : List Int) (hL : L.length ≤ 1000) (w : World) (hC : Kd.C (Kd.int .i64) w A L.length L) (hc : L.length ≤ c) :
  Calls Tryz.prog 114 #[.int .i64 k,.slice A L.length c] w fun e w' => e = .returned (.bool (kidR k L)) ∧ Below w.heap.size w w':=by
 have HC:=Lib.hid hC
 have HRS:=Lib.hid (fun (a b d : Int) => rrises_is A c L hL a b d w hC hc)
 have HAL:=Lib.hid (rallx_is A c L (by omega) w hC hc)
 have hv : kidR k L = if k = 1 then riseE L 0 (tw 3 L (tw 2 L 0)) else if k = 3 then riseE L 6 (tw 5 L (tw 4 L 0)) else if k = 6 then L.all stB
  else if k = 7 ∨ k = 15 ∨ k = 17 ∨ k = 23 ∨ k = 26 then lenAll 1 L else if k = 8 ∨ k = 27 then lenAll 2 L
  else if k = 9 then kR9 L else if k = 10 then kR10 L else if k = 11 then kR11 L else if k = 12 then kR12 L else if k = 13 then kR13 L
  else if k = 14 then decide (L.length ≤ 1) && L.all exB else if k = 16 then kR16 L else decide (L.length = 0):=rfl
 obtain ⟨r,hr⟩ : ∃ r,r = kidR k L:=⟨_,rfl⟩
 rw [← hr] at hv ⊢
 have hl3 : (L.length = 0 ∨ L.length = 1 ∨ L.length = 2 ∨ L.length = 3 ∨ 3 < L.length):=by omega
 clear hr hC
 have hk : k = 1 ∨ k = 3 ∨ k = 6 ∨ (k = 7 ∨ k = 15 ∨ k = 17 ∨ k = 23 ∨ k = 26) ∨ (k = 8 ∨ k = 27) ∨ k = 9 ∨ k = 10 ∨ k = 11 ∨ k = 12 ∨ k = 13 ∨ k = 14 ∨ k = 16 ∨ (¬ k = 1 ∧ ¬ k = 3 ∧ ¬ k = 6 ∧ ¬ k = 7 ∧ ¬ k = 15 ∧ ¬ k = 17 ∧ ¬ k = 23 ∧ ¬ k = 26 ∧ ¬ k = 8 ∧ ¬ k = 27 ∧ ¬ k = 9 ∧ ¬ k = 10 ∧ ¬ k = 11 ∧ ¬ k = 12 ∧ ¬ k = 13 ∧ ¬ k = 14 ∧ ¬ k = 16):=by omega
 rcases hk with hk | hk | hk | hk | hk | hk | hk | hk | hk | hk | hk | hk | hk
 ·subst hk
  have HV : Hid (r = riseE L 0 (tw 3 L (tw 2 L 0))):=Lib.hid hv
  clear hv
  have HX:=Lib.hid (HRS.out 2 3 0)
  obtain ⟨re,hre⟩ : ∃ re,re = riseE L 0 (tw 3 L (tw 2 L 0)):=⟨_,rfl⟩
  rw [← hre] at HV HX
  clear hre HRS HAL
  go_enter Tryz.func114,Tryz.ntmps114
  go_wp2_with fail
  refine HX.out.mono ?_
  rintro e_ W1 ⟨rfl,hb_⟩
  have HB1:=Lib.hid hb_
  clear hb_
  go_wp2_with fail
  go_ret
  exact ⟨by rw [HV.out]; rfl,HB1.out⟩
 ·subst hk
  have HV : Hid (r = riseE L 6 (tw 5 L (tw 4 L 0))):=Lib.hid hv
  clear hv
  have HX:=Lib.hid (HRS.out 4 5 6)
  obtain ⟨re,hre⟩ : ∃ re,re = riseE L 6 (tw 5 L (tw 4 L 0)):=⟨_,rfl⟩
  rw [← hre] at HV HX
  clear hre HRS HAL
  go_enter Tryz.func114,Tryz.ntmps114
  go_wp2_with fail
  refine HX.out.mono ?_
  rintro e_ W1 ⟨rfl,hb_⟩
  have HB1:=Lib.hid hb_
  clear hb_
  go_wp2_with fail
  go_ret
  exact ⟨by rw [HV.out]; rfl,HB1.out⟩
 ·subst hk
  have HV : Hid (r = L.all stB):=Lib.hid hv
  clear hv
  go_enter Tryz.func114,Tryz.ntmps114
  go_wp2_with fail
  go_loopg [5] (L.length + 1) (fun kq v5 W => ∃ i : Nat,v5 = .int .i64 i ∧ i ≤ L.length ∧ Hid (i + kq = L.length + 1) ∧ Hid (L.all stB = (L.drop i).all stB) ∧ Hid (Below w.heap.size w W))
  case atStart => exact ⟨0,rfl,Nat.zero_le _,Lib.hid (by omega),Lib.hid (by rw [List.drop_zero]),Lib.hid (Below.refl _ _)⟩
  case round =>
   obtain ⟨i,rfl,hi,HN,HO,HB⟩:=hrel
   by_cases hlt : i < L.length
   ·obtain ⟨adK,eK,y0⟩:=kid_at (Kd.C_below HC.out HB.out) i hlt
    have hst : (L.drop i).all stB = (stB L[i] && (L.drop (i + 1)).all stB):=by rw [List.drop_eq_getElem_cons hlt,List.all_cons]
    obtain ⟨x,hx⟩ : ∃ x,x = L[i]:=⟨_,rfl⟩
    rw [← hx] at y0 hst
    have HX:=Lib.hid (st_is x wr)
    have HST:=Lib.hid (HO.out.trans hst)
    cases eK
    clear hst hx HO
    cases hp : stB x with
    | true =>
     rw [hp] at HX
     have HST2:=Lib.hid (by have h:=HST.out; rw [hp,Bool.true_and] at h; exact h : L.all stB = (L.drop (i + 1)).all stB)
     clear hp HST
     go_wp2_with fail
     refine HX.out.mono ?_
     rintro e_ W2 ⟨rfl,hb_⟩
     have HB2:=Lib.hid (zAd HB.out hb_)
     clear hb_
     go_wp2_with fail
     go_roundg (gk - 1)
     case measure => have:=HN.out; omega
     case rel => exact ⟨i + 1,by norm_cast,hlt,Lib.hid (by have:=HN.out; omega),HST2,HB2⟩
    | false =>
     rw [hp] at HX
     have HST2:=Lib.hid (by have h:=HST.out; rw [hp,Bool.false_and] at h; exact h : L.all stB = false)
     clear hp HST
     go_wp2_with fail
     refine HX.out.mono ?_
     rintro e_ W2 ⟨rfl,hb_⟩
     have HB2:=Lib.hid (zAd HB.out hb_)
     clear hb_
     go_wp2_with fail
     go_ret
     exact ⟨by rw [HV.out,HST2.out]; rfl,HB2.out⟩
   ·obtain rfl : i = L.length:=by omega
    have ho:=HO.out
    rw [List.drop_length] at ho
    have HO2:=Lib.hid ho
    clear ho HO
    go_wp2_with fail
    go_ret
    exact ⟨by rw [HV.out,HO2.out]; rfl,HB.out⟩
 ·have hv2 : r = lenAll 1 L:=by rcases hk with rfl | rfl | rfl | rfl | rfl <;> exact hv
  have HV : Hid (r = (decide (L.length = 1) && L.all exB)):=Lib.hid hv2
  clear hv hv2
  obtain ⟨ae,hae⟩ : ∃ ae,ae = L.all exB:=⟨_,rfl⟩
  rw [← hae] at HV HAL
  clear hae HRS
  by_cases hln : L.length = 1
  ·have hi : (L.length : Int) = 1:=by omega
   have HLN:=Lib.hid hln
   clear hln hl3
   rcases hk with rfl | rfl | rfl | rfl | rfl <;> (
    go_enter Tryz.func114,Tryz.ntmps114
    go_wp2_with fail
    refine HAL.out.mono ?_
    rintro e_ W1 ⟨rfl,hb_⟩
    have HB1:=Lib.hid hb_
    clear hb_
    go_wp2_with fail
    go_ret
    exact ⟨by rw [HV.out,decide_eq_true HLN.out]; rfl,HB1.out⟩)
  ·have hi : ¬ (L.length : Int) = 1:=by omega
   have hib : ((L.length : Int) == 1) = false:=beq_eq_false_iff_ne.2 hi
   have HLN:=Lib.hid hln
   clear hln hl3
   rcases hk with rfl | rfl | rfl | rfl | rfl <;> (
    go_enter Tryz.func114,Tryz.ntmps114
    go_wp2_with fail
    go_ret
    exact ⟨by rw [HV.out,decide_eq_false HLN.out]; rfl,Below.refl _ _⟩)
 ·have hv2 : r = lenAll 2 L:=by rcases hk with rfl | rfl <;> exact hv
  have HV : Hid (r = (decide (L.length = 2) && L.all exB)):=Lib.hid hv2
  clear hv hv2
  obtain ⟨ae,hae⟩ : ∃ ae,ae = L.all exB:=⟨_,rfl⟩
  rw [← hae] at HV HAL
  clear hae HRS
  by_cases hln : L.length = 2
  ·have hi : (L.length : Int) = 2:=by omega
   have HLN:=Lib.hid hln
   clear hln hl3
   rcases hk with rfl | rfl <;> (
    go_enter Tryz.func114,Tryz.ntmps114
    go_wp2_with fail
    refine HAL.out.mono ?_
    rintro e_ W1 ⟨rfl,hb_⟩
    have HB1:=Lib.hid hb_
    clear hb_
    go_wp2_with fail
    go_ret
    exact ⟨by rw [HV.out,decide_eq_true HLN.out]; rfl,HB1.out⟩)
  ·have hi : ¬ (L.length : Int) = 2:=by omega
   have hib : ((L.length : Int) == 2) = false:=beq_eq_false_iff_ne.2 hi
   have HLN:=Lib.hid hln
   clear hln hl3
   rcases hk with rfl | rfl <;> (
    go_enter Tryz.func114,Tryz.ntmps114
    go_wp2_with fail
    go_ret
    exact ⟨by rw [HV.out,decide_eq_false HLN.out]; rfl,Below.refl _ _⟩)
 ·subst hk
  have HV0 : Hid (r = kR9 L):=Lib.hid hv
  clear hv hl3 HRS HAL
  by_cases hln : L.length = 1
  ·obtain ⟨a,rfl⟩ : ∃ a,L = [a]:=by
    match L,hln with
    | [a],_ => exact ⟨a,rfl⟩
   obtain ⟨adK0,eK0,y0⟩:=kid_at HC.out 0 (by simp)
   cases eK0
   rw [rz] at y0
   have y0 : w.cell? adK0 = some (.int .i64 a):=y0
   clear hln hL
   have HV : Hid (r = (a == 18)):=HV0
   go_enter Tryz.func114,Tryz.ntmps114
   go_wp2_with fail
   go_ret
   exact ⟨by rw [HV.out]; first | rfl | simp [*],Below.refl _ _⟩
  ·have HV : Hid (r = false):=Lib.hid (by
    rw [HV0.out]
    match L,hln with
    | [],_ => rfl
    | [x0],h => exact absurd rfl h
    | x0 :: x1 :: xs,_ => rfl)
   have hi : ¬ (L.length : Int) = 1:=by omega
   have hib : ((L.length : Int) == 1) = false:=beq_eq_false_iff_ne.2 hi
   clear hln HV0
   go_enter Tryz.func114,Tryz.ntmps114
   go_wp2_with fail
   go_ret
   exact ⟨by rw [HV.out]; first | rfl | simp [*],Below.refl _ _⟩
 ·subst hk
  have HV0 : Hid (r = kR10 L):=Lib.hid hv
  clear hv hl3 HRS HAL
  by_cases hln : L.length = 2
  ·obtain ⟨a,b,rfl⟩ : ∃ a b,L = [a,b]:=by
    match L,hln with
    | [a,b],_ => exact ⟨a,b,rfl⟩
   obtain ⟨adK0,eK0,y0⟩:=kid_at HC.out 0 (by simp)
   obtain ⟨adK1,eK1,y1⟩:=kid_at HC.out 1 (by simp)
   rw [eK0] at eK1
   cases eK1
   cases eK0
   rw [rz] at y0
   have y0 : w.cell? adK0 = some (.int .i64 a):=y0
   have y1 : w.cell? ⟨adK0.block,adK0.off + 1,none⟩ = some (.int .i64 b):=y1
   clear hln hL
   have HV : Hid (r = (a == 18 && exB b)):=HV0
   obtain ⟨eb,heb⟩ : ∃ e,e = exB b:=⟨_,rfl⟩
   have HX:=Lib.hid (ex_is b w)
   rw [← heb] at HV HX
   clear heb
   by_cases ha : a = 18
   ·subst ha
    go_enter Tryz.func114,Tryz.ntmps114
    go_wp2_with fail
    refine HX.out.mono ?_
    rintro e_ W1 ⟨rfl,hb_⟩
    have HB1:=Lib.hid hb_
    clear hb_
    go_wp2_with fail
    go_ret
    exact ⟨by rw [HV.out]; first | rfl | simp [*],HB1.out⟩
   ·have hab : (a == 18) = false:=beq_eq_false_iff_ne.2 ha
    go_enter Tryz.func114,Tryz.ntmps114
    go_wp2_with fail
    go_ret
    exact ⟨by rw [HV.out]; first | rfl | simp [*],Below.refl _ _⟩
  ·have HV : Hid (r = false):=Lib.hid (by
    rw [HV0.out]
    match L,hln with
    | [],_ => rfl
    | [x0],_ => rfl
    | [x0,x1],h => exact absurd rfl h
    | x0 :: x1 :: x2 :: xs,_ => rfl)
   have hi : ¬ (L.length : Int) = 2:=by omega
   have hib : ((L.length : Int) == 2) = false:=beq_eq_false_iff_ne.2 hi
   clear hln HV0
   go_enter Tryz.func114,Tryz.ntmps114
   go_wp2_with fail
   go_ret
   exact ⟨by rw [HV.out]; first | rfl | simp [*],Below.refl _ _⟩
 ·subst hk
  have HV0 : Hid (r = kR11 L):=Lib.hid hv
  clear hv hl3 HRS HAL
  by_cases hln : L.length = 3
  ·obtain ⟨a,b,d,rfl⟩ : ∃ a b d,L = [a,b,d]:=by
    match L,hln with
    | [a,b,d],_ => exact ⟨a,b,d,rfl⟩
   obtain ⟨adK0,eK0,y0⟩:=kid_at HC.out 0 (by simp)
   obtain ⟨adK1,eK1,y1⟩:=kid_at HC.out 1 (by simp)
   obtain ⟨adK2,eK2,y2⟩:=kid_at HC.out 2 (by simp)
   rw [eK0] at eK1
   cases eK1
   rw [eK0] at eK2
   cases eK2
   cases eK0
   rw [rz] at y0
   have y0 : w.cell? adK0 = some (.int .i64 a):=y0
   have y1 : w.cell? ⟨adK0.block,adK0.off + 1,none⟩ = some (.int .i64 b):=y1
   have y2 : w.cell? ⟨adK0.block,adK0.off + 2,none⟩ = some (.int .i64 d):=y2
   clear hln hL
   have HV : Hid (r = (exB a && (b == 6 && d == 6))):=HV0
   obtain ⟨ea,hea⟩ : ∃ e,e = exB a:=⟨_,rfl⟩
   have HX:=Lib.hid (ex_is a w)
   rw [← hea] at HV HX
   clear hea
   go_enter Tryz.func114,Tryz.ntmps114
   go_wp2_with fail
   refine HX.out.mono ?_
   rintro e_ W1 ⟨rfl,hb_⟩
   have HB1:=Lib.hid hb_
   have q1:=zAb hb_ y1
   have q2:=zAb hb_ y2
   clear hb_ y0 y1 y2
   cases ea
   ·go_wp2_with fail
    go_ret
    exact ⟨by rw [HV.out]; first | rfl | simp [*],HB1.out⟩
   ·skip
    by_cases hb : b = 6
    ·subst hb
     go_wp2_with fail
     go_ret
     exact ⟨by rw [HV.out]; first | rfl | simp [*],HB1.out⟩
    ·have hbb : (b == 6) = false:=beq_eq_false_iff_ne.2 hb
     go_wp2_with fail
     go_ret
     exact ⟨by rw [HV.out]; first | rfl | simp [*],HB1.out⟩
  ·have HV : Hid (r = false):=Lib.hid (by
    rw [HV0.out]
    match L,hln with
    | [],_ => rfl
    | [x0],_ => rfl
    | [x0,x1],_ => rfl
    | [x0,x1,x2],h => exact absurd rfl h
    | x0 :: x1 :: x2 :: x3 :: xs,_ => rfl)
   have hi : ¬ (L.length : Int) = 3:=by omega
   have hib : ((L.length : Int) == 3) = false:=beq_eq_false_iff_ne.2 hi
   clear hln HV0
   go_enter Tryz.func114,Tryz.ntmps114
   go_wp2_with fail
   go_ret
   exact ⟨by rw [HV.out]; first | rfl | simp [*],Below.refl _ _⟩
 ·subst hk
  have HV0 : Hid (r = kR12 L):=Lib.hid hv
  clear hv hl3 HRS HAL
  by_cases hln : L.length = 2
  ·obtain ⟨a,b,rfl⟩ : ∃ a b,L = [a,b]:=by
    match L,hln with
    | [a,b],_ => exact ⟨a,b,rfl⟩
   obtain ⟨adK0,eK0,y0⟩:=kid_at HC.out 0 (by simp)
   obtain ⟨adK1,eK1,y1⟩:=kid_at HC.out 1 (by simp)
   rw [eK0] at eK1
   cases eK1
   cases eK0
   rw [rz] at y0
   have y0 : w.cell? adK0 = some (.int .i64 a):=y0
   have y1 : w.cell? ⟨adK0.block,adK0.off + 1,none⟩ = some (.int .i64 b):=y1
   clear hln hL
   have HV : Hid (r = (exB a && b == 6)):=HV0
   obtain ⟨ea,hea⟩ : ∃ e,e = exB a:=⟨_,rfl⟩
   have HX:=Lib.hid (ex_is a w)
   rw [← hea] at HV HX
   clear hea
   go_enter Tryz.func114,Tryz.ntmps114
   go_wp2_with fail
   refine HX.out.mono ?_
   rintro e_ W1 ⟨rfl,hb_⟩
   have HB1:=Lib.hid hb_
   have q1:=zAb hb_ y1
   clear hb_ y0 y1
   cases ea
   ·go_wp2_with fail
    go_ret
    exact ⟨by rw [HV.out]; first | rfl | simp [*],HB1.out⟩
   ·skip
    go_wp2_with fail
    go_ret
    exact ⟨by rw [HV.out]; first | rfl | simp [*],HB1.out⟩
  ·have HV : Hid (r = false):=Lib.hid (by
    rw [HV0.out]
    match L,hln with
    | [],_ => rfl
    | [x0],_ => rfl
    | [x0,x1],h => exact absurd rfl h
    | x0 :: x1 :: x2 :: xs,_ => rfl)
   have hi : ¬ (L.length : Int) = 2:=by omega
   have hib : ((L.length : Int) == 2) = false:=beq_eq_false_iff_ne.2 hi
   clear hln HV0
   go_enter Tryz.func114,Tryz.ntmps114
   go_wp2_with fail
   go_ret
   exact ⟨by rw [HV.out]; first | rfl | simp [*],Below.refl _ _⟩
 ·subst hk
  have HV0 : Hid (r = kR13 L):=Lib.hid hv
  clear hv hl3 HRS HAL
  by_cases hln : L.length = 0
  ·have HV : Hid (r = false):=Lib.hid (by rw [HV0.out,List.eq_nil_of_length_eq_zero hln]; rfl)
   have hi : ¬ 1 ≤ (L.length : Int):=by omega
   have hi2 : ¬ 0 < L.length:=by omega
   clear hln HV0
   go_enter Tryz.func114,Tryz.ntmps114
   go_wp2_with fail
   go_ret
   exact ⟨by rw [HV.out]; first | rfl | simp [*],Below.refl _ _⟩
  ·have h1 : 0 < L.length:=by omega
   obtain ⟨adK,eK,y0⟩:=kid_at HC.out 0 h1
   rw [rz] at y0
   have hv : r = (L[0] == 19 && (L.drop 1).all exB):=by
    rw [HV0.out]
    match L,h1 with
    | a :: l,_ => rfl
   obtain ⟨i3,hi3,hz3⟩:=Option.map_eq_some_iff.1 info3
   simp only [Prod.mk.injEq] at hz3
   obtain ⟨A',hcut,hcr⟩:=zCh (P:=Tryz.prog) (Value.int .i64) 0 64 3 .i64 Tryz.underlying64 hi3 hz3.2.1 A L.length c 1 (by omega)
   have hcut1 : ∀ W,(Instr.slice 64 (.slice A L.length c) (some (.int .i64 1)) none none).run Tryz.prog W = .ok (.slice A' (L.length - 1) (c - 1)) W:=hcut
   have hlen : (L.drop 1).length = L.length - 1:=List.length_drop
   have hr:=hcr w L hc (Kd.zBL (d:=0) HC.out)
   rw [← List.length_drop] at hr
   have HX:=Lib.hid (rallx_is A' (c - 1) (L.drop 1) (by omega) w (Kd.zBP hr) (by omega))
   rw [hlen] at HX
   obtain ⟨a,ha⟩ : ∃ a,a = L[0]:=⟨_,rfl⟩
   rw [← ha] at y0 hv
   obtain ⟨ae,hae⟩ : ∃ ae,ae = (L.drop 1).all exB:=⟨_,rfl⟩
   rw [← hae] at hv HX
   have HV:=Lib.hid hv
   have i1 : (1 : Int) ≤ (L.length : Int):=by omega
   have i2 : (0 < L.length) = True:=eq_true h1
   clear hv ha hae hln HV0 hcut hcr hr hlen hz3 hi3
   cases eK
   by_cases ha : a = 19
   ·subst ha
    go_enter Tryz.func114,Tryz.ntmps114
    go_wp2_with fail
    refine HX.out.mono ?_
    rintro e_ W1 ⟨rfl,hb_⟩
    have HB1:=Lib.hid hb_
    clear hb_
    go_wp2_with fail
    go_ret
    exact ⟨by rw [HV.out]; first | rfl | simp [*],HB1.out⟩
   ·have hab : (a == 19) = false:=beq_eq_false_iff_ne.2 ha
    go_enter Tryz.func114,Tryz.ntmps114
    go_wp2_with fail
    go_ret
    exact ⟨by rw [HV.out]; first | rfl | simp [*],Below.refl _ _⟩
 ·subst hk
  have HV : Hid (r = (decide (L.length ≤ 1) && L.all exB)):=Lib.hid hv
  obtain ⟨ae,hae⟩ : ∃ ae,ae = L.all exB:=⟨_,rfl⟩
  rw [← hae] at HV HAL
  clear hv hl3 HRS hae
  by_cases hln : L.length ≤ 1
  ·have hi : (L.length : Int) ≤ 1:=by omega
   go_enter Tryz.func114,Tryz.ntmps114
   go_wp2_with fail
   refine HAL.out.mono ?_
   rintro e_ W1 ⟨rfl,hb_⟩
   have HB1:=Lib.hid hb_
   clear hb_
   go_wp2_with fail
   go_ret
   exact ⟨by rw [HV.out,decide_eq_true hln]; rfl,HB1.out⟩
  ·have hi : ¬ (L.length : Int) ≤ 1:=by omega
   go_enter Tryz.func114,Tryz.ntmps114
   go_wp2_with fail
   go_ret
   exact ⟨by rw [HV.out,decide_eq_false hln]; rfl,Below.refl _ _⟩
 ·subst hk
  have HV0 : Hid (r = kR16 L):=Lib.hid hv
  clear hv hl3 HRS HAL
  by_cases hln : L.length = 2
  ·obtain ⟨a,b,rfl⟩ : ∃ a b,L = [a,b]:=by
    match L,hln with
    | [a,b],_ => exact ⟨a,b,rfl⟩
   obtain ⟨adK0,eK0,y0⟩:=kid_at HC.out 0 (by simp)
   obtain ⟨adK1,eK1,y1⟩:=kid_at HC.out 1 (by simp)
   rw [eK0] at eK1
   cases eK1
   cases eK0
   rw [rz] at y0
   have y0 : w.cell? adK0 = some (.int .i64 a):=y0
   have y1 : w.cell? ⟨adK0.block,adK0.off + 1,none⟩ = some (.int .i64 b):=y1
   clear hln hL
   have HV : Hid (r = (a == 6 && b == 6)):=HV0
   by_cases ha : a = 6
   ·subst ha
    go_enter Tryz.func114,Tryz.ntmps114
    go_wp2_with fail
    go_ret
    exact ⟨by rw [HV.out]; first | rfl | simp [*],Below.refl _ _⟩
   ·have hab : (a == 6) = false:=beq_eq_false_iff_ne.2 ha
    go_enter Tryz.func114,Tryz.ntmps114
    go_wp2_with fail
    go_ret
    exact ⟨by rw [HV.out]; first | rfl | simp [*],Below.refl _ _⟩
  ·have HV : Hid (r = false):=Lib.hid (by
    rw [HV0.out]
    match L,hln with
    | [],_ => rfl
    | [x0],_ => rfl
    | [x0,x1],h => exact absurd rfl h
    | x0 :: x1 :: x2 :: xs,_ => rfl)
   have hi : ¬ (L.length : Int) = 2:=by omega
   have hib : ((L.length : Int) == 2) = false:=beq_eq_false_iff_ne.2 hi
   clear hln HV0
   go_enter Tryz.func114,Tryz.ntmps114
   go_wp2_with fail
   go_ret
   exact ⟨by rw [HV.out]; first | rfl | simp [*],Below.refl _ _⟩
 ·obtain ⟨k1,k2,k3,k4,k5,k6,k7,k8,k9,k10,k11,k12,k13,k14,k15,k16,k17⟩:=hk
  rw [if_neg k1,if_neg k2,if_neg k3,if_neg (by omega),if_neg (by omega),if_neg k11,if_neg k12,if_neg k13,if_neg k14,if_neg k15,if_neg k16,if_neg k17] at hv
  have HV:=Lib.hid hv
  clear hv hl3 HRS HAL
  by_cases hln : L.length = 0
  ·have hi : (L.length : Int) = 0:=by omega
   have HLN:=Lib.hid hln
   clear hln
   go_enter Tryz.func114,Tryz.ntmps114
   go_wp2_with fail
   go_ret
   exact ⟨by rw [HV.out,decide_eq_true HLN.out]; first | rfl | simp [*],Below.refl _ _⟩
  ·have hi : ¬ (L.length : Int) = 0:=by omega
   have hib : ((L.length : Int) == 0) = false:=beq_eq_false_iff_ne.2 hi
   go_enter Tryz.func114,Tryz.ntmps114
   go_wp2_with fail
   go_ret
   exact ⟨by rw [HV.out,decide_eq_false hln]; first | rfl | simp [*],Below.refl _ _⟩
end Go.Proofs.YtkhlfdcjgooogaaGreat.P
