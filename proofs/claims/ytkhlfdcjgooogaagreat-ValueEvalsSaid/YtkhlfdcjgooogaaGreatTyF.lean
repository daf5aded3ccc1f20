import Derived.Test.YtkhlfdcjgooogaaGreatWMore
import Derived.Test.YtkhlfdcjgooogaaGreatTyC
set_option maxRecDepth 100000
set_option maxHeartbeats 16000000
set_option linter.unusedVariables false
set_option linter.unusedSimpArgs false
set_option linter.unusedSectionVars false
namespace Go.Proofs.YtkhlfdcjgooogaaGreat.P
open Go.RowKit Go.Proofs.YtkhlfdcjgooogaaGreatW.PrintWords Go.Proofs.YtkhlfdcjgooogaaGreatW.PrintLast Go.Proofs.YtkhlfdcjgooogaaGreatW.PrintMore
theorem c_one (w : World) (x : Int) : (Kd.int .i64).C (w.alloc (.cells #[.int .i64 x] 3)) (some ⟨w.heap.size,0,none⟩) [x].length [x] :=
 Kd.zBP (d:=0) ⟨rfl,by simp,fun _ => ⟨_,rfl,fun j hj => by
  obtain rfl : j = 0:=by simpa using hj
  exact (zAh (blk_new w _) 0).trans rfl⟩⟩
theorem eq_one (l : List Int) : zAn.f 3 l [1] = some (decide (l = [1])):=by
 unfold zAn.f
 match l with
 | [] => simp
 | [x] =>
  simp [zAn.l0,rd]
  by_cases h : x = 1
  ·simp [h,wrap64,zAn.l0]
  ·simp [h]
 | x :: y :: l =>
  rw [if_neg (by simp only [List.length_cons,List.length_nil]; omega)]
  simp
def plainF (ns : List S66) (p : Int) : Bool:=decide (paramsF ns p = [1]) && decide (nOf ns p = 1)
theorem plain_is (p : Nat) (At : Option Addr) (ct : Nat) (ns : List S66) (root : Int) (ol : List Int) (q : Int) (h0 : 0 ≤ q) (h1 : q < ns.length) (hk : KidsIn ns) (w : World) (hS : Sc p At ct ns root ol w) :
  Calls Tryz.prog 73 #[.pointer (some ⟨p,0,none⟩),.int .i64 q] w fun e w' => e = .returned (.bool (plainF ns q)) ∧ Below w.heap.size w w':=by
 have HP:=Lib.hid (zCZ p At ct ns root ol q h0 h1 hk w hS)
 have HS:=Lib.hid hS
 clear hS hk
 unfold plainF
 obtain ⟨pl,hpl⟩ : ∃ pl,pl = paramsF ns q:=⟨_,rfl⟩
 obtain ⟨n,hn⟩ : ∃ n,n = nOf ns q:=⟨_,rfl⟩
 obtain ⟨b,hb⟩ : ∃ b,b = decide (pl = [1]):=⟨_,rfl⟩
 rw [← hpl] at HP ⊢
 rw [← hn,← hb]
 have HN:=Lib.hid hn
 have HQ:=Lib.hid (hb ▸ eq_one pl)
 clear hpl hn hb
 go_enter Tryz.func73,Tryz.ntmps73
 go_wp2_with fail
 refine HP.out.mono ?_
 rintro e_ w1 ⟨v,rfl,hr,hb_⟩
 obtain ⟨A,c,rfl,hle,hC⟩:=Kd.R_reads hr
 have HB1:=Lib.hid hb_
 have HC:=Lib.hid hC
 clear hb_ hC hr
 go_wp2_with fail
 refine (zAn.calls 3 A c pl _ 1 [1] b _ (Kd.C_alloc HC.out _) hle (c_one w1 1) (Nat.le_refl _) HQ.out).mono ?_
 rintro e_ w2 ⟨rfl,hd_⟩
 have HB2 : Hid (Below w.heap.size w w2):=Lib.hid (zAd (zAa HB1.out _) hd_.below)
 clear hd_
 obtain ⟨bo,g,r,l,Lb,h⟩:=HS.out.below HB2.out
 have c0:=bc_ h.hp 0
 obtain ⟨ad,A4,c4,eA,z0,z1,z2,z3,z4,l4,g4⟩:=at_T66 h.hC q h0 h1
 have hn' : n = (rd_T66 ns q).f1:=HN.out
 rw [← hn'] at z1
 have e0:=eq_true h0
 have e1:=eq_true h1
 cases eA
 clear h z0 z2 z3 z4 l4 g4 hn'
 cases b
 ·go_wp2_with fail
  go_ret
  exact ⟨by simp,HB2.out⟩
 ·by_cases hn1 : n = 1
  ·subst hn1
   go_wp2_with fail
   go_ret
   exact ⟨by simp,HB2.out⟩
  ·go_wp2_with fail
   go_ret
   exact ⟨by simp [hn1],HB2.out⟩
def arithB (s : Nm) : Bool:=s == [43] || s == [45] || s == [42] || s == [47] || s == [37]
def exprF (ns : List S66) (ol : List Int) (place : Int) : Int :=
 if kdOf ns place = 20 ∨ kdOf ns place = 23 ∨ kdOf ns place = 24 then 1
 else if kdOf ns place = 21 then 2
 else if kdOf ns place = 25 then 4
 else if kdOf ns place = 22 then kindF ns ol place (nmOf ns place)
 else if kdOf ns place = 26 ∨ kdOf ns place = 27 then (if arithB (nmOf ns place) = true then 1 else 2)
 else 0
def ofL (ns : List S66) (a b : Int) (s : Nm) : List Int → Int
 | [] => -1
 | k :: ks => if (kdOf ns k = a ∨ kdOf ns k = b) ∧ nmOf ns k = s then k else ofL ns a b s ks
theorem eqB_rf (t s : ByteArray) : (t.toList == s.toList) = decide (t.data.toList = s.data.toList):=by
 rw [zAI,zAI]
 by_cases h : t.data.toList = s.data.toList
 ·rw [h]; simp
 ·rw [decide_eq_false h]; exact beq_eq_false_iff_ne.2 h
theorem box_ref (At : Option Addr) (ct : Nat) (ns : List S66) (root : Int) (w W : World) (hW : W = w.alloc (.cells #[.slice At ns.length ct,.int .i64 root] 24)) :
  Below w.heap.size w W ∧ W.heap[w.heap.size]? = some (.cells #[.slice At ns.length ct,.int .i64 root] 24 (0,0)):=by
 rw [hW]
 exact ⟨zAa (Below.refl _ _) _,blk_new w _⟩
theorem of_is (At : Option Addr) (ct : Nat) (ns : List S66) (root : Int) (q : Int) (h0 : 0 ≤ q) (h1 : q < ns.length) (hKI : KidsIn ns) (a b : Int) (s : ByteArray) (w : World) (hC : Kd.C k66 w At ns.length ns) (hct : ns.length ≤ ct) :
  Calls Tryz.prog 44 #[.agg #[.slice At ns.length ct,.int .i64 root],.int .i64 q,.int .i64 a,.int .i64 b,.string s] w fun e w' => e = .returned (.int .i64 (ofL ns a b s.data.toList (rd_T66 ns q).f4)) ∧ Below w.heap.size w w':=by
 obtain ⟨W0,hW0⟩ : ∃ W0,W0 = w.alloc (.cells #[.slice At ns.length ct,.int .i64 root] 24):=⟨_,rfl⟩
 have HB0:=Lib.hid (box_ref At ct ns root w W0 hW0).1
 have X0:=Lib.hid (box_ref At ct ns root w W0 hW0).2
 have HW0:=Lib.hid hW0
 have HC:=Lib.hid hC
 obtain ⟨ad,A4,c4,eA,z0,z1,z2,z3,z4,l4,g4⟩:=at_T66 hC q h0 h1
 have e0:=eq_true h0
 have e1:=eq_true h1
 have hkq:=hKI (rd_T66 ns q) (zAA ns q h0 h1)
 obtain ⟨kl,hkl⟩ : ∃ kl,kl = (rd_T66 ns q).f4:=⟨_,rfl⟩
 rw [← hkl] at z4 l4 g4 hkq ⊢
 have HG4:=Lib.hid g4
 have HK:=Lib.hid hkq.1
 have hkl1:=hkq.2
 have c0:=bc_ X0.out 0
 rw [hW0] at c0
 replace z4:=zAb (zAa (Below.refl w.heap.size w) (.cells #[.slice At ns.length ct,.int .i64 root] 24)) z4
 cases eA
 clear hkl z0 z1 z2 z3 hW0 hC hkq g4 hKI
 go_enter Tryz.func44,Tryz.ntmps44
 go_wp2_with fail
 clear z4 c0 e0 e1
 rw [← HW0.out]
 go_loopg [12] (kl.length + 1) (fun kq v12 W => ∃ i : Nat,v12 = .int .i64 i ∧ i ≤ kl.length ∧ Hid (i + kq = kl.length + 1) ∧ Hid (ofL ns a b s.data.toList kl = ofL ns a b s.data.toList (kl.drop i)) ∧ Hid (Below w.heap.size w W) ∧ Hid (W.heap[w.heap.size]? = some (.cells #[.slice (some ad) ns.length ct,.int .i64 root] 24 (0,0))))
 case atStart => exact ⟨0,rfl,Nat.zero_le _,Lib.hid (by omega),Lib.hid (by rw [List.drop_zero]),HB0,X0⟩
 case round =>
  obtain ⟨i,rfl,hi,HN,HO,HB,X⟩:=hrel
  by_cases hlt : i < kl.length
  ·obtain ⟨adK,eK,y0⟩:=Kd.at_int (Kd.C_below HG4.out HB.out) (i : Int) (by omega) (by omega)
   have hq : rd kl (i : Int) = kl[i]:=by simp [rd,hlt]
   rw [hq,Int.toNat_natCast] at y0
   have hin:=HK.out kl[i] (List.getElem_mem hlt)
   have hst : ofL ns a b s.data.toList (kl.drop i) = if (kdOf ns kl[i] = a ∨ kdOf ns kl[i] = b) ∧ nmOf ns kl[i] = s.data.toList then kl[i] else ofL ns a b s.data.toList (kl.drop (i + 1)):=by rw [List.drop_eq_getElem_cons hlt,ofL]
   obtain ⟨kv,hkv⟩ : ∃ kv,kv = kl[i]:=⟨_,rfl⟩
   rw [← hkv] at y0 hin hst
   have c0:=bc_ X.out 0
   obtain ⟨ad',A5,c5,eA,x0,x1,x2,x3,x4,l5,g5⟩:=at_T66 (Kd.C_below HC.out HB.out) kv hin.1 hin.2
   have hk0 : kdOf ns kv = (rd_T66 ns kv).f0:=rfl
   have ht0 : nmOf ns kv = (rd_T66 ns kv).f3.data.toList:=rfl
   have e0:=eq_true hin.1
   have e1:=eq_true hin.2
   cases eA
   cases eK
   obtain ⟨x,hx⟩ : ∃ x,x = rd_T66 ns kv:=⟨_,rfl⟩
   rw [← hx] at x0 x1 x2 x3 x4 l5 g5 hk0 ht0
   obtain ⟨k,n,at_,tx,kl2⟩:=x
   dsimp only at x0 x1 x2 x3 x4 l5 g5 hk0 ht0
   rw [hk0,ht0] at hst
   have HST:=Lib.hid (HO.out.trans hst)
   clear hx hin hk0 ht0 g5 hst HO hkv hq
   have hEQ:=eqB_rf tx s
   obtain ⟨bb,hbb⟩ : ∃ bb,bb = decide (tx.data.toList = s.data.toList):=⟨_,rfl⟩
   rw [← hbb] at hEQ
   have HBB:=Lib.hid hbb
   clear hbb
   go_wp2_with fail
   refine start_ (n:=10) (S:=fun w' => w'.cell? ⟨w.heap.size,0,none⟩ = some (.slice (some ad) ns.length ct) ∧ w'.cell? (adK.add i) = some (.int .i64 kv) ∧ w'.cell? (ad.add (kv.toNat * 5)) = some (.int .i64 k) ∧ w'.cell? ⟨(ad.add (kv.toNat * 5)).block,(ad.add (kv.toNat * 5)).off + 1,none⟩ = some (.int .i64 n) ∧ w'.cell? ⟨(ad.add (kv.toNat * 5)).block,(ad.add (kv.toNat * 5)).off + 2,none⟩ = some (.int .i64 at_) ∧ w'.cell? ⟨(ad.add (kv.toNat * 5)).block,(ad.add (kv.toNat * 5)).off + 3,none⟩ = some (.string tx) ∧ w'.cell? ⟨(ad.add (kv.toNat * 5)).block,(ad.add (kv.toNat * 5)).off + 4,none⟩ = some (.slice A5 kl2.length c5)) (ds:=[9]) #[false,false,false,false,false,false,false,false,false,false] (by kernel_rfl) rfl rfl ⟨zAg c0,zAg y0,zAg x0,zAg x1,zAg x2,zAg x3,zAg x4⟩ (fun hHeld => ?_)
   refine pu_ 0 26 ?_
   refine pu_ 2 28 ?_
   refine pu_ 3 29 ?_
   refine pu_ 4 30 ?_
   refine ta_ 1 27 hHeld ?_
   refine ta_ 5 31 hHeld ?_
   refine pu_ 6 32 ?_
   refine ta_ 7 33 hHeld ?_
   refine on_ 8 (some 13) (fun K hK => ?_)
   refine value_ (w1:=?_) (v:=?_) (by rfl) rfl ?_ ?_
   rotate_left 2
   ·go_simp
    constructor
    ·rfl
    ·rfl
   have NB:=Lib.hid (heap_alloc_new wr.drew (.cells #[.int .i64 0,.int .i64 0,.int .i64 0,.string ⟨#[]⟩,.slice none 0 0] 66))
   refine hK.out _ _ ⟨zAb (zAa (zAk (Below.refl wr.heap.size wr)) _) c0,zAb (zAa (zAk (Below.refl wr.heap.size wr)) _) y0,zAb (zAa (zAk (Below.refl wr.heap.size wr)) _) x0,zAb (zAa (zAk (Below.refl wr.heap.size wr)) _) x1,zAb (zAa (zAk (Below.refl wr.heap.size wr)) _) x2,zAb (zAa (zAk (Below.refl wr.heap.size wr)) _) x3,zAb (zAa (zAk (Below.refl wr.heap.size wr)) _) x4⟩ (fun hHeld => ?_)
   clear hK K
   refine no_ ?_
   refine last_ (i:=9) (N:=none) #[true,true,true,true,true,true,true,true,true,true] rfl rfl (by kernel_rfl) (by decide) (fun K hK => ?_)
   have d0:=(zAh NB.out 0).trans rfl
   have d1:=(zAh NB.out 1).trans rfl
   have d2:=(zAh NB.out 2).trans rfl
   have d3:=(zAh NB.out 3).trans rfl
   have d4:=(zAh NB.out 4).trans rfl
   have f0:=zAc NB.out 0
   have f1:=zAc NB.out 1
   have f2:=zAc NB.out 2
   have f3:=zAc NB.out 3
   have f4:=zAc NB.out 4
   refine skip_ (w1:=?_) (by rfl) rfl ?_ ?_
   rotate_left
   ·go_simp
    rfl
   refine hK.out _ _ ?_
   clear hK K
   refine done_ (by kernel_rfl) ?_
   have hb1 : Below wr.heap.size wr (wr.alloc (.cells #[.int .i64 k,.int .i64 n,.int .i64 at_,.string tx,.slice A5 kl2.length c5] 66)).drew:=zAk (zAa (Below.refl _ _) _)
   have nd:=Lib.hid (zAl (heap_alloc_new wr (.cells #[.int .i64 k,.int .i64 n,.int .i64 at_,.string tx,.slice A5 kl2.length c5] 66)))
   obtain ⟨W1,hW1⟩ : ∃ W1,W1 = (wr.alloc (.cells #[.int .i64 k,.int .i64 n,.int .i64 at_,.string tx,.slice A5 kl2.length c5] 66)).drew:=⟨_,rfl⟩
   rw [← hW1] at hb1 nd ⊢
   have HB1:=Lib.hid (zAd HB.out hb1)
   have X1:=Lib.hid (zAe X.out hb1)
   have y1:=zAb hb1 y0
   have n0:=bc_ nd.out 0
   have n3:=bc_ nd.out 3
   clear hW1 hb1 x0 x1 x2 x3 x4 c0 y0 NB
   by_cases hk : k = a ∨ k = b
   ·have HKB:=Lib.hid hk
    cases bb
    ·have hne : ¬ tx.data.toList = s.data.toList:=of_decide_eq_false HBB.out.symm
     have HST1:=Lib.hid (by have:=HST.out; rw [if_neg (fun h => hne h.2)] at this; exact this : ofL ns a b s.data.toList kl = ofL ns a b s.data.toList (kl.drop (i + 1)))
     clear HST HBB hne
     by_cases ha : k = a
     ·clear hk HKB
      go_wp2_with fail
      go_roundg (gk - 1)
      case measure => have:=HN.out; omega
      case rel => exact ⟨i + 1,by norm_cast,hlt,Lib.hid (by have:=HN.out; omega),HST1,HB1,X1⟩
     ·have hb : k = b:=hk.resolve_left ha
      clear hk HKB
      go_wp2_with fail
      go_roundg (gk - 1)
      case measure => have:=HN.out; omega
      case rel => exact ⟨i + 1,by norm_cast,hlt,Lib.hid (by have:=HN.out; omega),HST1,HB1,X1⟩
    ·have he : tx.data.toList = s.data.toList:=of_decide_eq_true HBB.out.symm
     have HST1:=Lib.hid (by have:=HST.out; rw [if_pos ⟨HKB.out,he⟩] at this; exact this : ofL ns a b s.data.toList kl = kv)
     clear HST HBB he
     by_cases ha : k = a
     ·clear hk HKB
      go_wp2_with fail
      go_ret
      exact ⟨by rw [HST1.out]; rfl,HB1.out⟩
     ·have hb : k = b:=hk.resolve_left ha
      clear hk HKB
      go_wp2_with fail
      go_ret
      exact ⟨by rw [HST1.out]; rfl,HB1.out⟩
   ·have ha : ¬ k = a:=fun h => hk (.inl h)
    have hb : ¬ k = b:=fun h => hk (.inr h)
    have HST1:=Lib.hid (by have:=HST.out; rw [if_neg (fun h => hk h.1)] at this; exact this : ofL ns a b s.data.toList kl = ofL ns a b s.data.toList (kl.drop (i + 1)))
    clear hk HST
    go_wp2_with fail
    go_roundg (gk - 1)
    case measure => have:=HN.out; omega
    case rel => exact ⟨i + 1,by norm_cast,hlt,Lib.hid (by have:=HN.out; omega),HST1,HB1,X1⟩
  ·obtain rfl : i = kl.length:=by omega
   have ho:=HO.out
   rw [List.drop_length] at ho
   have HO1:=Lib.hid ho
   clear ho HO
   go_wp2_with fail
   go_ret
   exact ⟨by rw [HO1.out]; rfl,HB.out⟩
def typK (k : Int) (kd : Int) (ar : Bool) : Int :=
 if k = 20 ∨ k = 23 ∨ k = 24 then 1 else if k = 21 then 2 else if k = 25 then 4 else if k = 22 then kd else if k = 26 ∨ k = 27 then (if ar = true then 1 else 2) else 0
theorem exprF_eq (ns : List S66) (ol : List Int) (place : Int) : exprF ns ol place = typK (kdOf ns place) (kindF ns ol place (nmOf ns place)) (arithB (nmOf ns place)):=rfl
theorem KidsIn.size {ns : List S66} {p : Nat} {At : Option Addr} {ct : Nat} {root : Int} {ol : List Int} {w : World} (h : Sc p At ct ns root ol w) {i : Int} (h0 : 0 ≤ i) (h1 : i < ns.length) : (rd_T66 ns i).f3.size ≤ 140737488351232:=by
 obtain ⟨bo,g,r,l,Lb,h⟩:=h
 exact h.hs _ (zAA ns i h0 h1)
theorem expr_is (p : Nat) (At : Option Addr) (ct : Nat) (ns : List S66) (root : Int) (ol : List Int) (q : Int) (h0 : 0 ≤ q) (h1 : q < ns.length) (w : World) (hS : Sc p At ct ns root ol w) :
  Calls Tryz.prog 71 #[.pointer (some ⟨p,0,none⟩),.int .i64 q] w fun e w' => e = .returned (.int .i64 (exprF ns ol q)) ∧ Below w.heap.size w w':=by
 have hsz:=KidsIn.size hS h0 h1
 have HKI:=Lib.hid (fun (w' : World) (hb : Below w.heap.size w w') => kind_is p At ct ns root ol q h0 h1 _ hsz w' (hS.below hb))
 rw [exprF_eq]
 obtain ⟨kr,hkr⟩ : ∃ kr,kr = kindF ns ol q (nmOf ns q):=⟨_,rfl⟩
 rw [show (rd_T66 ns q).f3.data.toList = nmOf ns q from rfl,← hkr] at HKI
 rw [← hkr]
 obtain ⟨bo,g,r,l,Lb,h⟩:=hS
 have c0:=bc_ h.hp 0
 obtain ⟨ad,A4,c4,eA,z0,z1,z2,z3,z4,l4,g4⟩:=at_T66 h.hC q h0 h1
 have e0:=eq_true h0
 have e1:=eq_true h1
 have hk0 : kdOf ns q = (rd_T66 ns q).f0:=rfl
 have ht0 : nmOf ns q = (rd_T66 ns q).f3.data.toList:=rfl
 rw [hk0,ht0]
 obtain ⟨x,hx⟩ : ∃ x,x = rd_T66 ns q:=⟨_,rfl⟩
 rw [← hx] at z0 z1 z2 z3 z4 HKI ⊢
 obtain ⟨k,n,at_,tx,kl⟩:=x
 dsimp only at z0 z1 z2 z3 z4 HKI ⊢
 rw [← hx] at l4 g4
 dsimp only at l4 g4
 cases eA
 have hbl : ∀ o,Below w.heap.size w (w.alloc o):=fun o => zAa (Below.refl _ _) o
 have HBL:=Lib.hid hbl
 rw [← zAI]
 clear h hk0 ht0 hx hkr g4 hbl hsz
 by_cases k20 : k = 20
 ·subst k20
  go_enter Tryz.func71,Tryz.ntmps71
  go_wp2_with fail
  go_ret
  exact ⟨rfl,HBL.out _⟩
 by_cases k23 : k = 23
 ·subst k23
  go_enter Tryz.func71,Tryz.ntmps71
  go_wp2_with fail
  go_ret
  exact ⟨rfl,HBL.out _⟩
 by_cases k66 : k = 24
 ·subst k66
  go_enter Tryz.func71,Tryz.ntmps71
  go_wp2_with fail
  go_ret
  exact ⟨rfl,HBL.out _⟩
 by_cases k21 : k = 21
 ·subst k21
  go_enter Tryz.func71,Tryz.ntmps71
  go_wp2_with fail
  go_ret
  exact ⟨rfl,HBL.out _⟩
 by_cases k25 : k = 25
 ·subst k25
  go_enter Tryz.func71,Tryz.ntmps71
  go_wp2_with fail
  go_ret
  exact ⟨rfl,HBL.out _⟩
 by_cases k22 : k = 22
 ·subst k22
  go_enter Tryz.func71,Tryz.ntmps71
  go_wp2_with fail
  refine (HKI.out _ (HBL.out _)).mono ?_
  rintro e_ w1 ⟨rfl,hb_⟩
  have HB1:=Lib.hid (zAd (HBL.out _) hb_)
  clear hb_
  go_wp2_with fail
  go_ret
  exact ⟨rfl,HB1.out⟩
 have hT : typK k kr (arithB tx.toList) = if k = 26 ∨ k = 27 then (if arithB tx.toList = true then 1 else 2) else 0:=by
  unfold typK
  rw [if_neg (by omega),if_neg k21,if_neg k25,if_neg k22]
 rw [hT]
 clear hT HKI
 by_cases k67 : k = 26 ∨ k = 27
 ·rw [if_pos k67]
  unfold arithB
  cases t1 : tx.toList == [43] with
  | true =>
   rcases k67 with rfl | rfl
   all_goals
    go_enter Tryz.func71,Tryz.ntmps71
    go_wp2_with fail
    go_ret
    exact ⟨rfl,HBL.out _⟩
  | false =>
  cases t2 : tx.toList == [45] with
  | true =>
   rcases k67 with rfl | rfl
   all_goals
    go_enter Tryz.func71,Tryz.ntmps71
    go_wp2_with fail
    go_ret
    exact ⟨rfl,HBL.out _⟩
  | false =>
  cases t3 : tx.toList == [42] with
  | true =>
   rcases k67 with rfl | rfl
   all_goals
    go_enter Tryz.func71,Tryz.ntmps71
    go_wp2_with fail
    go_ret
    exact ⟨rfl,HBL.out _⟩
  | false =>
  cases t4 : tx.toList == [47] with
  | true =>
   rcases k67 with rfl | rfl
   all_goals
    go_enter Tryz.func71,Tryz.ntmps71
    go_wp2_with fail
    go_ret
    exact ⟨rfl,HBL.out _⟩
  | false =>
  cases t5 : tx.toList == [37] with
  | true =>
   rcases k67 with rfl | rfl
   all_goals
    go_enter Tryz.func71,Tryz.ntmps71
    go_wp2_with fail
    go_ret
    exact ⟨rfl,HBL.out _⟩
  | false =>
   rcases k67 with rfl | rfl
   all_goals
    go_enter Tryz.func71,Tryz.ntmps71
    go_wp2_with fail
    go_ret
    exact ⟨rfl,HBL.out _⟩
 ·rw [if_neg k67]
  have k26 : k ≠ 26:=fun e => k67 (.inl e)
  have k27 : k ≠ 27:=fun e => k67 (.inr e)
  clear k67
  go_enter Tryz.func71,Tryz.ntmps71
  go_wp2_with fail
  go_ret
  exact ⟨rfl,HBL.out _⟩
def allF (ns : List S66) (ol : List Int) (kind : Int) (l : List Int) : Bool:=l.all (fun k => exprF ns ol k == kind)
theorem all1_is (b1 b2 p : Nat) (At : Option Addr) (ct : Nat) (ns : List S66) (root : Int) (ol : List Int) (kind q : Int) (h0 : 0 ≤ q) (h1 : q < ns.length) (w : World) (hS : Sc p At ct ns root ol w)
  (c1 : w.cell? ⟨b1,0,none⟩ = some (.pointer (some ⟨p,0,none⟩))) (c2 : w.cell? ⟨b2,0,none⟩ = some (.int .i64 kind)) :
  Calls Tryz.prog 107 #[.int .i64 q,.pointer (some ⟨b1,0,none⟩),.pointer (some ⟨b2,0,none⟩)] w fun e w' => e = .returned (.bool (!(exprF ns ol q == kind))) ∧ Below w.heap.size w w':=by
 have HE:=Lib.hid (expr_is p At ct ns root ol q h0 h1 w.drew (hS.below (zAk (Below.refl _ _))))
 clear hS
 obtain ⟨t,ht⟩ : ∃ t,t = exprF ns ol q:=⟨_,rfl⟩
 rw [← ht] at HE ⊢
 clear ht
 go_enter Tryz.func107,Tryz.ntmps107
 go_wp2_with fail
 refine start_ (n:=6) (S:=fun w' => w'.cell? ⟨b1,0,none⟩ = some (.pointer (some ⟨p,0,none⟩)) ∧ w'.cell? ⟨b2,0,none⟩ = some (.int .i64 kind)) (ds:=[]) #[false,false,false,false,false,false] (by kernel_rfl) rfl rfl ⟨zAg c1,zAg c2⟩ (fun hHeld => ?_)
 refine pu_ 1 6 ?_
 refine ta_ 0 5 hHeld ?_
 refine ta_ 3 8 hHeld ?_
 refine on_ 2 (some 7) (fun K hK => ?_)
 refine gs_ Tryz.func71 #[.pointer (some ⟨p,0,none⟩),.int .i64 q] ?_
 with_reducible refine HE.out.mono ?_
 rintro e_ w6 ⟨rfl,hb_⟩
 refine ⟨_,rfl,?_⟩
 have HB6 : Hid (Below w.heap.size w w6):=Lib.hid (zAd (zAk (Below.refl _ _)) hb_)
 have x0:=zAb hb_ (zAg c1)
 have x1:=zAb hb_ (zAg c2)
 clear hb_
 refine hK.out _ _ ⟨x0,x1⟩ (fun hHeld => ?_)
 clear hK K
 refine no_ ?_
 refine pu_ 4 9 ?_
 refine pu_ 5 4 ?_
 refine done_ (by kernel_rfl) ?_
 go_wp2_with fail
 go_ret
 exact ⟨rfl,HB6.out⟩
theorem allFind_is (b1 b2 p : Nat) (At : Option Addr) (ct : Nat) (ns : List S66) (root : Int) (ol : List Int) (kind : Int) (A : Option Addr) (c : Nat) (kl : List Int) (hk : ∀ k ∈ kl,0 ≤ k ∧ k < ns.length) (hl : kl.length ≤ 4000) (w : World) (hS : Sc p At ct ns root ol w)
  (hC : Kd.C (Kd.int .i64) w A kl.length kl) (hc : kl.length ≤ c) (c1 : w.heap[b1]? = some (.cells #[.pointer (some ⟨p,0,none⟩)] 87 (0,0))) (c2 : w.heap[b2]? = some (.cells #[.int .i64 kind] 3 (0,0))) :
  Calls Tryz.prog 126 #[.slice A kl.length c,.func (.func 107) #[] #[.pointer (some ⟨b1,0,none⟩),.pointer (some ⟨b2,0,none⟩)]] w fun e w' => ∃ v : Int,e = .returned (.int .i64 v) ∧ Hid (decide (0 ≤ v) = !(allF ns ol kind kl)) ∧ Below w.heap.size w w':=by
 have HS:=Lib.hid hS
 have HK:=Lib.hid hk
 have HC:=Lib.hid hC
 have H1:=Lib.hid c1
 have H2:=Lib.hid c2
 clear hS hk hC c1 c2
 go_enter Tryz.func126,Tryz.ntmps126
 go_wp2_with fail
 go_loopg [8] (kl.length + 1) (fun kq v8 W => ∃ i : Nat,v8 = .int .i64 i ∧ i ≤ kl.length ∧ Hid (i + kq = kl.length + 1) ∧ Hid (allF ns ol kind (kl.take i) = true) ∧ Hid (Below w.heap.size w W))
 case atStart => exact ⟨0,rfl,Nat.zero_le _,Lib.hid (by omega),Lib.hid rfl,Lib.hid (Below.refl _ _)⟩
 case round =>
  obtain ⟨i,rfl,hi,HN,HA,HB⟩:=hrel
  by_cases hlt : i < kl.length
  ·obtain ⟨adK,eK,y0⟩:=Kd.at_int (Kd.C_below HC.out HB.out) (i : Int) (by omega) (by omega)
   have hq : rd kl (i : Int) = kl[i]:=by simp [rd,hlt]
   rw [hq,Int.toNat_natCast] at y0
   have hin:=HK.out kl[i] (List.getElem_mem hlt)
   have hmem : kl[i] ∈ kl:=List.getElem_mem hlt
   have htk : kl.take (i + 1) = kl.take i ++ [kl[i]]:=List.take_succ_eq_append_getElem hlt
   obtain ⟨kv,hkv⟩ : ∃ kv,kv = kl[i]:=⟨_,rfl⟩
   rw [← hkv] at y0 hin htk hmem
   clear hq hkv
   have HX:=Lib.hid (all1_is b1 b2 p At ct ns root ol kind kv hin.1 hin.2 wr (HS.out.below HB.out) ((zAh (zAe H1.out HB.out) 0).trans rfl) ((zAh (zAe H2.out HB.out) 0).trans rfl))
   have HTK:=Lib.hid htk
   have HM:=Lib.hid hmem
   clear hin htk hmem
   cases eK
   cases hok : exprF ns ol kv == kind with
   | true =>
    rw [hok] at HX
    have HOK:=Lib.hid hok
    clear hok
    go_wp2_with fail
    refine HX.out.mono ?_
    rintro e_ W2 ⟨rfl,hb_⟩
    have HB2:=Lib.hid (zAd HB.out hb_)
    clear hb_
    go_wp2_with fail
    go_roundg (gk - 1)
    case measure => have:=HN.out; omega
    case rel => exact ⟨i + 1,by norm_cast,hlt,Lib.hid (by have:=HN.out; omega),Lib.hid (by rw [HTK.out,allF,List.all_append,show List.all (kl.take i) _ = true from HA.out]; simp [HOK.out]),HB2⟩
   | false =>
    rw [hok] at HX
    have HOK:=Lib.hid hok
    clear hok
    go_wp2_with fail
    refine HX.out.mono ?_
    rintro e_ W2 ⟨rfl,hb_⟩
    have HB2:=Lib.hid (zAd HB.out hb_)
    clear hb_
    go_wp2_with fail
    go_ret
    refine ⟨i,rfl,Lib.hid ?_,HB2.out⟩
    have h1 : allF ns ol kind kl = false:=by
     unfold allF
     rw [List.all_eq_false]
     exact ⟨_,HM.out,by rw [HOK.out]; simp⟩
    rw [h1]
    simp
  ·obtain rfl : i = kl.length:=by omega
   have hall:=HA.out
   rw [List.take_length] at hall
   have HALL:=Lib.hid hall
   clear hall
   go_wp2_with fail
   go_ret
   exact ⟨-1,rfl,Lib.hid (by rw [HALL.out]; rfl),HB.out⟩
theorem allAny_is (b1 b2 p : Nat) (At : Option Addr) (ct : Nat) (ns : List S66) (root : Int) (ol : List Int) (kind : Int) (A : Option Addr) (c : Nat) (kl : List Int) (hk : ∀ k ∈ kl,0 ≤ k ∧ k < ns.length) (hl : kl.length ≤ 4000) (w : World) (hS : Sc p At ct ns root ol w)
  (hC : Kd.C (Kd.int .i64) w A kl.length kl) (hc : kl.length ≤ c) (c1 : w.heap[b1]? = some (.cells #[.pointer (some ⟨p,0,none⟩)] 87 (0,0))) (c2 : w.heap[b2]? = some (.cells #[.int .i64 kind] 3 (0,0))) :
  Calls Tryz.prog 106 #[.slice A kl.length c,.func (.func 107) #[] #[.pointer (some ⟨b1,0,none⟩),.pointer (some ⟨b2,0,none⟩)]] w fun e w' => e = .returned (.bool (!(allF ns ol kind kl))) ∧ Below w.heap.size w w':=by
 have HX:=Lib.hid (allFind_is b1 b2 p At ct ns root ol kind A c kl hk hl w hS hC hc c1 c2)
 obtain ⟨r,hr⟩ : ∃ r,r = !(allF ns ol kind kl):=⟨_,rfl⟩
 rw [← hr]
 rw [← hr] at HX
 clear hS hk hC c1 c2 hr
 go_enter Tryz.func106,Tryz.ntmps106
 go_wp2_with fail
 refine HX.out.mono ?_
 rintro e_ w1 ⟨v,rfl,HV,hb_⟩
 have HB:=Lib.hid hb_
 clear hb_
 have t1 : decide (0 ≤ v) = r:=HV.out
 go_wp2_with fail
 go_ret
 exact ⟨rfl,HB.out⟩
theorem all_is (p : Nat) (At : Option Addr) (ct : Nat) (ns : List S66) (root : Int) (ol : List Int) (kind : Int) (A : Option Addr) (c : Nat) (kl : List Int) (hk : ∀ k ∈ kl,0 ≤ k ∧ k < ns.length) (hl : kl.length ≤ 4000) (w : World) (hS : Sc p At ct ns root ol w)
  (hC : Kd.C (Kd.int .i64) w A kl.length kl) (hc : kl.length ≤ c) :
  Calls Tryz.prog 70 #[.pointer (some ⟨p,0,none⟩),.slice A kl.length c,.int .i64 kind] w fun e w' => e = .returned (.bool (allF ns ol kind kl)) ∧ Below w.heap.size w w':=by
 have hmf:=@hmf_ Tryz.prog
 have HX:=Lib.hid (fun b1 b2 (w' : World) (hb : Below w.heap.size w w') => allAny_is b1 b2 p At ct ns root ol kind A c kl hk hl w' (hS.below hb) (Kd.C_below hC hb) hc)
 obtain ⟨r,hr⟩ : ∃ r,r = allF ns ol kind kl:=⟨_,rfl⟩
 rw [← hr]
 rw [← hr] at HX
 clear hS hk hC hr
 go_enter Tryz.func70,Tryz.ntmps70
 go_wp2_with fail
 have hb0 : Below w.heap.size w ((w.alloc (.cells #[.pointer (some ⟨p,0,none⟩)] 87)).alloc (.cells #[.int .i64 kind] 3)):=zAa (zAa (Below.refl _ _) _) _
 have x1:=zAj (heap_alloc_new w (.cells #[.pointer (some ⟨p,0,none⟩)] 87)) (.cells #[.int .i64 kind] 3)
 have x2:=heap_alloc_new (w.alloc (.cells #[.pointer (some ⟨p,0,none⟩)] 87)) (.cells #[.int .i64 kind] 3)
 have x2' : ((w.alloc (.cells #[.pointer (some ⟨p,0,none⟩)] 87)).alloc (.cells #[.int .i64 kind] 3)).heap[w.heap.size + 1]? = some (.cells #[.int .i64 kind] 3 (0,0)):=by simpa using x2
 refine (HX.out w.heap.size (w.heap.size + 1) _ hb0 x1 x2').mono ?_
 rintro e_ w1 ⟨rfl,hb_⟩
 have HB1:=Lib.hid (zAd hb0 hb_)
 clear hb_ x1 x2 x2' hb0
 cases r
 ·go_wp2_with fail
  go_ret
  exact ⟨rfl,HB1.out⟩
 ·go_wp2_with fail
  go_ret
  exact ⟨rfl,HB1.out⟩
end Go.Proofs.YtkhlfdcjgooogaaGreat.P
