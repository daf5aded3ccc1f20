import Derived.Test.YtkhlfdcjgooogaaGreatTyI
import Derived.Test.YtkhlfdcjgooogaaGreatWMore
set_option maxRecDepth 100000
set_option maxHeartbeats 16000000
set_option linter.unusedVariables false
set_option linter.unusedSimpArgs false
set_option linter.unusedSectionVars false
namespace Go.Proofs.YtkhlfdcjgooogaaGreat.P
open Go.RowKit Go.Proofs.YtkhlfdcjgooogaaGreatW.PrintWords Go.Proofs.YtkhlfdcjgooogaaGreatW.PrintLast Go.Proofs.YtkhlfdcjgooogaaGreatW.PrintMore
def pairsB (ns : List S66) (ol : List Int) (l : List (Int × Int)) : Bool:=l.all (fun x => exprF ns ol x.1 == x.2)
def fitsF (ns : List S66) (ol : List Int) (kl wl : List Int) : Bool:=decide (kl.length = wl.length) && pairsB ns ol (kl.zip wl)
theorem call1_is (b1 p : Nat) (At : Option Addr) (ct : Nat) (ns : List S66) (root : Int) (ol : List Int) (kind q : Int) (h0 : 0 ≤ q) (h1 : q < ns.length) (w : World) (hS : Sc p At ct ns root ol w)
  (c1 : w.cell? ⟨b1,0,none⟩ = some (.pointer (some ⟨p,0,none⟩))) :
  Calls Tryz.prog 110 #[.int .i64 q,.int .i64 kind,.pointer (some ⟨b1,0,none⟩)] w fun e w' => e = .returned (.bool (exprF ns ol q == kind)) ∧ Below w.heap.size w w':=by
 have HE:=Lib.hid (expr_is p At ct ns root ol q h0 h1 w hS)
 clear hS
 obtain ⟨t,ht⟩ : ∃ t,t = exprF ns ol q:=⟨_,rfl⟩
 rw [← ht] at HE ⊢
 clear ht
 go_enter Tryz.func110,Tryz.ntmps110
 go_wp2_with fail
 refine HE.out.mono ?_
 rintro e_ w6 ⟨rfl,hb_⟩
 have HB6:=Lib.hid hb_
 clear hb_
 go_wp2_with fail
 go_ret
 exact ⟨rfl,HB6.out⟩
theorem fits_is (b1 p : Nat) (At : Option Addr) (ct : Nat) (ns : List S66) (root : Int) (ol : List Int) (A : Option Addr) (c : Nat) (kl : List Int) (hk : ∀ k ∈ kl,0 ≤ k ∧ k < ns.length) (hl : kl.length ≤ 4000) (A2 : Option Addr) (c' : Nat) (wl : List Int) (w : World) (hS : Sc p At ct ns root ol w)
  (hC : Kd.C (Kd.int .i64) w A kl.length kl) (hc : kl.length ≤ c) (hC2 : Kd.C (Kd.int .i64) w A2 wl.length wl) (hc2 : wl.length ≤ c') (c1 : w.heap[b1]? = some (.cells #[.pointer (some ⟨p,0,none⟩)] 87 (0,0))) :
  Calls Tryz.prog 109 #[.slice A kl.length c,.slice A2 wl.length c',.func (.func 110) #[] #[.pointer (some ⟨b1,0,none⟩)]] w fun e w' => e = .returned (.bool (fitsF ns ol kl wl)) ∧ Below w.heap.size w w':=by
 by_cases hlen : kl.length = wl.length
 ·have hR : fitsF ns ol kl wl = pairsB ns ol (kl.zip wl):=by unfold fitsF; simp [hlen]
  rw [hR]
  have HS:=Lib.hid hS
  have HK:=Lib.hid hk
  have HC:=Lib.hid hC
  have HC2:=Lib.hid hC2
  have H1:=Lib.hid c1
  rw [← hlen] at HC2
  rw [show (Value.slice A2 wl.length c') = .slice A2 kl.length c' from by rw [hlen]]
  have HL:=Lib.hid hlen
  clear hS hk hC hC2 c1 hR hc2 hlen
  go_enter Tryz.func109,Tryz.ntmps109
  go_wp2_with fail
  go_loopg [17] (kl.length + 1) (fun kq v17 W => ∃ i : Nat,v17 = .int .i64 i ∧ i ≤ kl.length ∧ Hid (i + kq = kl.length + 1) ∧ Hid (pairsB ns ol ((kl.zip wl).take i) = true) ∧ Hid (Below w.heap.size w W))
  case atStart => exact ⟨0,rfl,Nat.zero_le _,Lib.hid (by omega),Lib.hid rfl,Lib.hid (Below.refl _ _)⟩
  case round =>
   obtain ⟨i,rfl,hi,HN,HA,HB⟩:=hrel
   by_cases hlt : i < kl.length
   ·have hlt2 : i < wl.length:=by have:=HL.out; omega
    obtain ⟨adK,eK,y0⟩:=Kd.at_int (Kd.C_below HC.out HB.out) (i : Int) (by omega) (by omega)
    obtain ⟨adW,eW,y1⟩:=Kd.at_int (Kd.C_below HC2.out HB.out) (i : Int) (by omega) (by omega)
    have hq : rd kl (i : Int) = kl[i]:=by simp [rd,hlt]
    have hq2 : rd wl (i : Int) = wl[i]:=by simp [rd,hlt2]
    rw [hq,Int.toNat_natCast] at y0
    rw [hq2,Int.toNat_natCast] at y1
    have hin:=HK.out kl[i] (List.getElem_mem hlt)
    have hz : i < (kl.zip wl).length:=by have:=HL.out; simp; omega
    have hzi : (kl.zip wl)[i] = (kl[i],wl[i]):=by simp
    have hmem : (kl[i],wl[i]) ∈ kl.zip wl:=by rw [← hzi]; exact List.getElem_mem hz
    have htk : (kl.zip wl).take (i + 1) = (kl.zip wl).take i ++ [(kl[i],wl[i])]:=by rw [← hzi]; exact List.take_succ_eq_append_getElem hz
    obtain ⟨kv,hkv⟩ : ∃ kv,kv = kl[i]:=⟨_,rfl⟩
    obtain ⟨wv,hwv⟩ : ∃ wv,wv = wl[i]:=⟨_,rfl⟩
    rw [← hkv,← hwv] at htk hmem
    rw [← hkv] at y0 hin
    rw [← hwv] at y1
    clear hq hkv hq2 hwv hz hzi
    have HX:=Lib.hid (call1_is b1 p At ct ns root ol wv kv hin.1 hin.2 wr (HS.out.below HB.out) ((zAh (zAe H1.out HB.out) 0).trans rfl))
    have HTK:=Lib.hid htk
    have HM:=Lib.hid hmem
    clear hin htk hmem hlt2
    cases eK
    cases eW
    cases hok : exprF ns ol kv == wv with
    | true =>
     rw [hok] at HX
     have HOK:=Lib.hid hok
     clear hok
     go_wp2_with fail
     refine HX.out.mono ?_
     rintro e_ W2 ⟨rfl,hb_⟩
     have HB2:=Lib.hid (zAd HB.out hb_)
     clear hb_
     go_wp2_with fail
     go_roundg (gk - 1)
     case measure => have:=HN.out; omega
     case rel => exact ⟨i + 1,by norm_cast,hlt,Lib.hid (by have:=HN.out; omega),Lib.hid (by rw [HTK.out,pairsB,List.all_append,show List.all ((kl.zip wl).take i) _ = true from HA.out]; simp [HOK.out]),HB2⟩
    | false =>
     rw [hok] at HX
     have HOK:=Lib.hid hok
     clear hok
     go_wp2_with fail
     refine HX.out.mono ?_
     rintro e_ W2 ⟨rfl,hb_⟩
     have HB2:=Lib.hid (zAd HB.out hb_)
     clear hb_
     have HF : Hid (pairsB ns ol (kl.zip wl) = false):=Lib.hid (by
      unfold pairsB
      rw [List.all_eq_false]
      exact ⟨_,HM.out,by rw [HOK.out]; simp⟩)
     go_wp2_with fail
     go_ret
     exact ⟨by rw [HF.out]; rfl,HB2.out⟩
   ·obtain rfl : i = kl.length:=by omega
    have hall:=HA.out
    rw [List.take_of_length_le (by rw [List.length_zip]; omega)] at hall
    have HALL:=Lib.hid hall
    clear hall
    go_wp2_with fail
    go_ret
    exact ⟨by rw [HALL.out]; rfl,HB.out⟩
 ·have hR : fitsF ns ol kl wl = false:=by unfold fitsF; simp [hlen]
  rw [hR]
  have hlen' : ¬ ((kl.length : Int) = wl.length):=by omega
  clear hS hk hC hC2 c1 hR
  go_enter Tryz.func109,Tryz.ntmps109
  go_wp2_with fail
  go_ret
  exact ⟨rfl,Below.refl _ _⟩
def callT (ns : List S66) (ol : List Int) (q : Int) (tx : Nm) (kl want : List Int) (answer : Int) : Int :=
 if (fitsF ns ol (kl.drop 1) want && (decide (tx = []) || (decide (answer ≠ 0) && decide (kindF ns ol q tx = answer)))) = true then 0 else 5
def callF (ns : List S66) (ol : List Int) (q : Int) (s0 tx : Nm) (kl : List Int) : Int :=
 if (meansF ns ol q s0 = -1 ∧ procF ns s0 = -1) ∨ (tx ≠ [] ∧ meansF ns ol q tx = -1) then 3
 else if meansF ns ol q s0 = -1 then callT ns ol q tx kl (paramsF ns (procF ns s0)) (nOf ns (procF ns s0))
 else if nOf ns (meansF ns ol q s0) ≠ 4 then 5 else callT ns ol q tx kl [1] 1
theorem call_is (p : Nat) (At : Option Addr) (ct : Nat) (ns : List S66) (root : Int) (ol : List Int) (q : Int) (h0 : 0 ≤ q) (h1 : q < ns.length) (k n at_ : Int) (tx : ByteArray) (A : Option Addr) (c : Nat) (kl : List Int) (hkl : 0 < kl.length) (w : World) (hS : Sc p At ct ns root ol w) (hKI : KidsIn ns)
  (hk : ∀ k ∈ kl,0 ≤ k ∧ k < ns.length) (hl : kl.length ≤ 4000) (hC : Kd.C (Kd.int .i64) w A kl.length kl) (hc : kl.length ≤ c) (hs : tx.size ≤ 140737488351232) :
  Calls Tryz.prog 75 #[.pointer (some ⟨p,0,none⟩),.int .i64 q,.agg #[.int .i64 k,.int .i64 n,.int .i64 at_,.string tx,.slice A kl.length c]] w fun e w' => e = .returned (.int .i64 (callF ns ol q (nmOf ns (rd kl 0)) tx.data.toList kl)) ∧ Below w.heap.size w w':=by
 have hb0 : Below w.heap.size w ((w.alloc (.cells #[.pointer (some ⟨p,0,none⟩)] 87)).alloc (.cells #[.int .i64 k,.int .i64 n,.int .i64 at_,.string tx,.slice A kl.length c] 66)):=zAa (zAa (Below.refl _ _) _) _
 have x3:=zAj (heap_alloc_new w (.cells #[.pointer (some ⟨p,0,none⟩)] 87)) (.cells #[.int .i64 k,.int .i64 n,.int .i64 at_,.string tx,.slice A kl.length c] 66)
 have x5:=heap_alloc_new (w.alloc (.cells #[.pointer (some ⟨p,0,none⟩)] 87)) (.cells #[.int .i64 k,.int .i64 n,.int .i64 at_,.string tx,.slice A kl.length c] 66)
 have es : (w.alloc (.cells #[.pointer (some ⟨p,0,none⟩)] 87)).heap.size = w.heap.size + 1:=by simp
 rw [es] at x5
 obtain ⟨W0,hW0⟩ : ∃ W0,W0 = (w.alloc (.cells #[.pointer (some ⟨p,0,none⟩)] 87)).alloc (.cells #[.int .i64 k,.int .i64 n,.int .i64 at_,.string tx,.slice A kl.length c] 66):=⟨_,rfl⟩
 rw [← hW0] at hb0 x3 x5
 have HB0:=Lib.hid hb0
 have X3:=Lib.hid x3
 have X5:=Lib.hid x5
 have HW0:=Lib.hid hW0
 have HS:=Lib.hid hS
 obtain ⟨k0,hk0⟩ : ∃ k0,k0 = rd kl 0:=⟨_,rfl⟩
 rw [← hk0]
 have hin : 0 ≤ k0 ∧ k0 < ns.length:=by
  rw [hk0]
  have : rd kl 0 = kl[0]:=by simp [rd,hkl]
  rw [this]
  exact hk _ (List.getElem_mem hkl)
 obtain ⟨bo,g,r0,l,Lb,h⟩:=hS.below hb0
 have c3:=bc_ x3 0
 have c54:=bc_ x5 4
 have cp0:=bc_ h.hp 0
 obtain ⟨adK,eK,y0⟩:=Kd.at_int (Kd.C_below hC hb0) 0 (Int.le_refl _) (by omega)
 rw [← hk0] at y0
 replace y0 : W0.cell? adK = some (.int .i64 k0):=y0
 obtain ⟨ad,A4,c4,eA,z0,z1,z2,z3,z4,l4,g4⟩:=at_T66 h.hC k0 hin.1 hin.2
 obtain ⟨s0,hs0⟩ : ∃ s0,s0 = (rd_T66 ns k0).f3:=⟨_,rfl⟩
 have hsz : s0.size ≤ 140737488351232:=by rw [hs0]; exact h.hs _ (zAA ns k0 hin.1 hin.2)
 rw [← hs0] at z3
 have hn0 : nmOf ns k0 = s0.data.toList:=by rw [hs0]; rfl
 rw [hn0]
 have HM:=Lib.hid (fun (w' : World) (hb : Below w.heap.size w w') => zCW p At ct ns root ol q h0 h1 s0 hsz w' (hS.below hb))
 have HP:=Lib.hid (fun (w' : World) (hb : Below w.heap.size w w') => proc_is p At ct ns root ol s0 hsz w' (hS.below hb))
 have HM2:=Lib.hid (fun (w' : World) (hb : Below w.heap.size w w') => zCW p At ct ns root ol q h0 h1 tx hs w' (hS.below hb))
 have HKD:=Lib.hid (fun (w' : World) (hb : Below w.heap.size w w') => kind_is p At ct ns root ol q h0 h1 tx hs w' (hS.below hb))
 have HD:=Lib.hid (zBc ns ol q s0.data.toList)
 have HPR:=Lib.hid (zBd ns s0.data.toList)
 have HM2R:=Lib.hid (zBc ns ol q tx.data.toList)
 obtain ⟨R,hR⟩ : ∃ R,R = callF ns ol q s0.data.toList tx.data.toList kl:=⟨_,rfl⟩
 rw [← hR]
 unfold callF callT at hR
 obtain ⟨d,hd⟩ : ∃ d,d = meansF ns ol q s0.data.toList:=⟨_,rfl⟩
 obtain ⟨pp,hpp⟩ : ∃ pp,pp = procF ns s0.data.toList:=⟨_,rfl⟩
 obtain ⟨d2,hd2⟩ : ∃ d2,d2 = meansF ns ol q tx.data.toList:=⟨_,rfl⟩
 obtain ⟨kt,hkt⟩ : ∃ kt,kt = kindF ns ol q tx.data.toList:=⟨_,rfl⟩
 rw [← hd,← hpp,← hd2,← hkt] at hR
 rw [← hd] at HM HD
 rw [← hpp] at HP HPR
 rw [← hd2] at HM2 HM2R
 rw [← hkt] at HKD
 have HR:=Lib.hid hR
 have HKT:=Lib.hid hkt
 have e1:=eq_true hin.1
 have e2:=eq_true hin.2
 have e3 : (0 : Int) < (kl.length : Int):=by omega
 cases eK
 cases eA
 obtain ⟨i3,hi3,hz3⟩:=Option.map_eq_some_iff.1 info3
 simp only [Prod.mk.injEq] at hz3
 obtain ⟨A',hcut,hcr⟩:=zCh (P:=Tryz.prog) (Value.int .i64) 0 64 3 .i64 Tryz.underlying64 hi3 hz3.2.1 (some adK) kl.length c 1 (by omega)
 have hcut1 : ∀ W,(Instr.slice 64 (.slice (some adK) kl.length c) (some (.int .i64 1)) none none).run Tryz.prog W = .ok (.slice A' (kl.length - 1) (c - 1)) W:=hcut
 have HFT:=Lib.hid (fun (b1 : Nat) (A2 : Option Addr) (c' : Nat) (wl : List Int) (w' : World) (hb : Below w.heap.size w w') (hC2 : Kd.C (Kd.int .i64) w' A2 wl.length wl) (hc2 : wl.length ≤ c') (x : w'.heap[b1]? = some (.cells #[.pointer (some ⟨p,0,none⟩)] 87 (0,0))) => by
  have hf:=fits_is b1 p (some ad) ct ns root ol A' (c - 1) (kl.drop 1) (fun k h => hk k (List.mem_of_mem_drop h)) (by simp; omega) A2 c' wl w' (hS.below hb) (by
   have hr:=hcr w' kl hc (Kd.zBL (d:=0) (Kd.C_below hC hb))
   rw [← List.length_drop] at hr
   exact Kd.zBP hr) (by simp; omega) hC2 hc2 x
  rw [List.length_drop] at hf
  exact hf)
 have HPA:=Lib.hid (fun (w' : World) (hb : Below w.heap.size w w') (h0 : 0 ≤ pp) (h1 : pp < ns.length) => zCZ p (some ad) ct ns root ol pp h0 h1 hKI w' (hS.below hb))
 clear hcut hcr hi3 hz3 z0 z1 z2 z4 l4 g4 hW0 hb0 x3 x5 hS hKI hk hC es h hk0 hin hs0 hn0 hsz hR hd hpp hd2 hkt
 go_enter Tryz.func75,Tryz.ntmps75
 go_wp2_with fail
 rw [← HW0.out]
 go_quiet (fail)
 obtain ⟨W1,hW1⟩ : ∃ W1,W1 = W0.drewN nq:=⟨_,rfl⟩
 rw [← hW1]
 have HB1 : Hid (Below w.heap.size w W1):=Lib.hid (by rw [hW1]; exact zAf HB0.out _)
 have X31 : Hid (W1.heap[w.heap.size]? = some (.cells #[.pointer (some ⟨p,0,none⟩)] 87 (0,0))):=Lib.hid (by rw [hW1]; exact X3.out)
 have X51 : Hid (W1.heap[w.heap.size + 1]? = some (.cells #[.int .i64 k,.int .i64 n,.int .i64 at_,.string tx,.slice (some adK) kl.length c] 66 (0,0))):=Lib.hid (by rw [hW1]; exact X5.out)
 clear hW1 c3 c54 cp0 y0 z3 e1 e2 HB0 X3 X5 HW0
 have c31:=bc_ X31.out 0
 go_wp2_with fail
 refine start_ (n:=9) (S:=fun w' => w'.cell? ⟨w.heap.size,0,none⟩ = some (.pointer (some ⟨p,0,none⟩))) (ds:=[]) #[false,false,false,false,false,false,false,false,false] (by kernel_rfl) rfl rfl (zAg c31) (fun hHeld => ?_)
 refine pu_ 1 26 ?_
 refine pu_ 2 27 ?_
 refine pu_ 5 30 ?_
 refine ta_ 0 25 hHeld ?_
 refine ta_ 4 29 hHeld ?_
 refine on_ 3 (some 28) (fun K hK => ?_)
 refine gs_ Tryz.func104 #[.pointer (some ⟨p,0,none⟩),.int .i64 q,.string s0] ?_
 with_reducible refine (HM.out _ (zAk HB1.out)).mono ?_
 rintro e_ W2 ⟨rfl,hb_⟩
 refine ⟨_,rfl,?_⟩
 have HB2:=Lib.hid (zAd (zAk (HB1.out)) hb_)
 have X32:=Lib.hid (zAe (zAl (X31.out)) hb_)
 have X52:=Lib.hid (zAe (zAl (X51.out)) hb_)
 clear hb_
 have c32:=bc_ X32.out 0
 refine hK.out _ _ (c32) (fun hHeld => ?_)
 clear hK K
 refine no_ ?_
 refine on_ 6 (some 31) (fun K hK => ?_)
 refine gs_ Tryz.func35 #[.pointer (some ⟨p,0,none⟩),.string s0] ?_
 with_reducible refine (HP.out _ HB2.out).mono ?_
 rintro e_ W3 ⟨rfl,hb_⟩
 refine ⟨_,rfl,?_⟩
 have HB3:=Lib.hid (zAd (HB2.out) hb_)
 have X33:=Lib.hid (zAe (X32.out) hb_)
 have X53:=Lib.hid (zAe (X52.out) hb_)
 clear hb_
 have c33:=bc_ X33.out 0
 refine hK.out _ _ (c33) (fun hHeld => ?_)
 clear hK K
 refine no_ ?_
 refine pu_ 7 8 ?_
 refine pu_ 8 9 ?_
 refine done_ (by kernel_rfl) ?_
 by_cases hA : d = -1 ∧ pp = -1
 ·obtain ⟨rfl,rfl⟩:=hA
  have hR3 : R = 3:=by have h:=HR.out; rw [if_pos (.inl ⟨rfl,rfl⟩)] at h; exact h
  subst hR3
  clear HR HD HPR
  go_wp2_with fail
  go_ret
  exact ⟨rfl,HB3.out⟩
 have hnb:=hA
 clear hA
 by_cases ht : tx.size = 0
 ·have ht1:=zBN tx ht
  have ht2 : tx.data.toList = []:=by rw [← zAI]; exact ht1
  have hx : ¬ (tx.data.toList ≠ [] ∧ d2 = -1):=fun e => e.1 ht2
  have HX:=Lib.hid hx
  clear ht
  have c533:=bc_ X53.out 3
  by_cases hd : d = -1
  ·have hpp : pp ≠ -1:=fun e => hnb ⟨hd,e⟩
   subst hd
   have hb_ : Below W3.heap.size W3 (W3.alloc (.cells #[.int .i64 1] 3)):=zAa (Below.refl _ _) _
   have ho_:=c_one W3 1
   obtain ⟨W3a,hW3a⟩ : ∃ W_,W_ = W3.alloc (.cells #[.int .i64 1] 3):=⟨_,rfl⟩
   rw [← hW3a] at hb_ ho_
   have HO3a:=Lib.hid ho_
   have HB3a:=Lib.hid (zAd (HB3.out) hb_)
   have X33a:=Lib.hid (zAe (X33.out) hb_)
   have X53a:=Lib.hid (zAe (X53.out) hb_)
   clear hb_
   obtain ⟨bo',g',r',l',Lb',h⟩:=HS.out.below HB3a.out
   have cp0:=bc_ h.hp 0
   have c33a:=bc_ X33a.out 0
   have c543a:=bc_ X53a.out 4
   clear ho_
   have hpr:=HPR.out.resolve_left hpp
   have hRT : R = if (fitsF ns ol (kl.drop 1) (paramsF ns pp) && (decide (tx.data.toList = []) || (decide (nOf ns pp ≠ 0) && decide (kt = nOf ns pp)))) = true then 0 else 5:=by have h:=HR.out; rw [if_neg (by rintro (⟨_,e⟩ | e); exact hpp e; exact HX.out e),if_pos (by trivial)] at h; exact h
   obtain ⟨ad',A5,c5,eA,x0,x1,x2,x3,x4,l5,g5⟩:=at_T66 h.hC pp hpr.1 hpr.2
   have hn1 : nOf ns pp = (rd_T66 ns pp).f1:=rfl
   rw [← hn1] at x1
   obtain ⟨an,han⟩ : ∃ an,an = nOf ns pp:=⟨_,rfl⟩
   rw [← han] at x1 hRT
   obtain ⟨wl,hwl⟩ : ∃ wl,wl = paramsF ns pp:=⟨_,rfl⟩
   have HPB:=Lib.hid (fun (w' : World) (hb : Below w.heap.size w w') => HPA.out w' hb hpr.1 hpr.2)
   rw [← hwl] at hRT HPB
   have HRT:=Lib.hid hRT
   have e1:=eq_true hpr.1
   have e2:=eq_true hpr.2
   cases eA
   clear h x0 x2 x3 x4 l5 g5 hn1 hpr hRT han hwl
   subst hW3a
   go_wp2_with fail
   refine start_ (n:=14) (S:=fun w' => w'.cell? ⟨w.heap.size,0,none⟩ = some (.pointer (some ⟨p,0,none⟩)) ∧ w'.cell? ⟨p,0,none⟩ = some (.slice (some ad) ns.length ct) ∧ w'.cell? ⟨(ad.add (pp.toNat * 5)).block,(ad.add (pp.toNat * 5)).off + 1,none⟩ = some (.int .i64 an)) (ds:=[]) #[false,false,false,false,false,false,false,false,false,false,false,false,false,false] (by kernel_rfl) rfl rfl ⟨zAg c33a,zAg cp0,zAg x1⟩ (fun hHeld => ?_)
   refine pu_ 1 55 ?_
   refine pu_ 8 62 ?_
   refine ta_ 0 54 hHeld ?_
   refine ta_ 3 57 hHeld ?_
   refine pu_ 4 58 ?_
   refine pu_ 5 59 ?_
   refine pu_ 6 60 ?_
   refine ta_ 7 61 hHeld ?_
   refine pu_ 9 63 ?_
   refine pu_ 10 64 ?_
   refine ta_ 11 65 hHeld ?_
   refine on_ 2 (some 56) (fun K hK => ?_)
   refine gs_ Tryz.func36 #[.pointer (some ⟨p,0,none⟩),.int .i64 pp] ?_
   with_reducible refine (HPB.out _ (zAk HB3a.out)).mono ?_
   rintro e_ W3ap ⟨v_,rfl,hr_,hb_⟩
   obtain ⟨Aw,cw,rfl,hle_,hCw_⟩:=Kd.R_reads hr_
   refine ⟨_,rfl,?_⟩
   have HCw:=Lib.hid hCw_
   have y1:=zAb hb_ (zAg cp0)
   have y2:=zAb hb_ (zAg x1)
   have HB3ap:=Lib.hid (zAd (zAk (HB3a.out)) hb_)
   have X33ap:=Lib.hid (zAe (zAl (X33a.out)) hb_)
   have X53ap:=Lib.hid (zAe (zAl (X53a.out)) hb_)
   clear hb_
   have c33ap:=bc_ X33ap.out 0
   clear hr_ hCw_
   refine hK.out _ _ ⟨c33ap,y1,y2⟩ (fun hHeld => ?_)
   clear hK K
   refine no_ ?_
   refine pu_ 12 10 ?_
   refine pu_ 13 11 ?_
   refine done_ (by kernel_rfl) ?_
   have c543ap:=bc_ X53ap.out 4
   go_wp2_with fail
   obtain ⟨fb,hfb⟩ : ∃ fb,fb = fitsF ns ol (kl.drop 1) wl:=⟨_,rfl⟩
   have HT:=HRT.out
   rw [← hfb] at HT
   have HQ:=HFT.out w.heap.size Aw cw wl _ HB3ap.out HCw.out hle_ X33ap.out
   rw [← hfb] at HQ
   clear hfb
   refine HQ.mono ?_
   rintro e_ W3apb ⟨rfl,hb_⟩
   have HB3apb:=Lib.hid (zAd (HB3ap.out) hb_)
   have X33apb:=Lib.hid (zAe (X33ap.out) hb_)
   have X53apb:=Lib.hid (zAe (X53ap.out) hb_)
   clear hb_
   have c533apb:=bc_ X53apb.out 3
   have c33apb:=bc_ X33apb.out 0
   clear HQ HR HRT HPA HFT
   cases fb with
   | false =>
    go_wp2_with fail
    refine (told_is false _).mono ?_
    rintro e_ w_ ⟨rfl,rfl⟩
    have hR : R = 5:=by rw [HT]; rfl
    subst hR
    clear HT
    go_wp2_with fail
    go_ret
    exact ⟨rfl,HB3apb.out⟩
   | true =>
    go_wp2_with fail
    refine (told_is true _).mono ?_
    rintro e_ w_ ⟨rfl,rfl⟩
    have hR : R = 0:=by rw [HT]; simp [ht2]
    subst hR
    clear HT
    go_wp2_with fail
    go_ret
    exact ⟨rfl,HB3apb.out⟩
  ·skip
   have hb_ : Below W3.heap.size W3 (W3.alloc (.cells #[.int .i64 1] 3)):=zAa (Below.refl _ _) _
   have ho_:=c_one W3 1
   obtain ⟨W3a,hW3a⟩ : ∃ W_,W_ = W3.alloc (.cells #[.int .i64 1] 3):=⟨_,rfl⟩
   rw [← hW3a] at hb_ ho_
   have HO3a:=Lib.hid ho_
   have HB3a:=Lib.hid (zAd (HB3.out) hb_)
   have X33a:=Lib.hid (zAe (X33.out) hb_)
   have X53a:=Lib.hid (zAe (X53.out) hb_)
   clear hb_
   obtain ⟨bo',g',r',l',Lb',h⟩:=HS.out.below HB3a.out
   have cp0:=bc_ h.hp 0
   have c33a:=bc_ X33a.out 0
   have c543a:=bc_ X53a.out 4
   clear ho_
   have hdr:=HD.out.resolve_left hd
   obtain ⟨ad',A5,c5,eA,x0,x1,x2,x3,x4,l5,g5⟩:=at_T66 h.hC d hdr.1 hdr.2
   have hn1 : nOf ns d = (rd_T66 ns d).f1:=rfl
   rw [← hn1] at x1
   obtain ⟨nd,hnd⟩ : ∃ nd,nd = nOf ns d:=⟨_,rfl⟩
   rw [← hnd] at x1
   have HND:=Lib.hid hnd
   have e1:=eq_true hdr.1
   have e2:=eq_true hdr.2
   cases eA
   clear h x0 x2 x3 x4 l5 g5 hn1 hnd hdr
   subst hW3a
   by_cases hn4 : nd = 4
   ·subst hn4
    have hRT : R = if (fitsF ns ol (kl.drop 1) [1] && (decide (tx.data.toList = []) || (decide ((1 : Int) ≠ 0) && decide (kt = 1)))) = true then 0 else 5:=by have h:=HR.out; rw [if_neg (by rintro (⟨e,_⟩ | e); exact hd e; exact HX.out e),if_neg hd,if_neg (by rw [← HND.out]; exact fun h => h rfl)] at h; exact h
    have HRT:=Lib.hid hRT
    clear hRT
    go_wp2_with fail
    obtain ⟨fb,hfb⟩ : ∃ fb,fb = fitsF ns ol (kl.drop 1) [1]:=⟨_,rfl⟩
    have HT:=HRT.out
    rw [← hfb] at HT
    have HQ:=HFT.out w.heap.size _ 1 [1] _ HB3a.out HO3a.out (Nat.le_refl _) X33a.out
    rw [← hfb] at HQ
    clear hfb
    refine HQ.mono ?_
    rintro e_ W3ab ⟨rfl,hb_⟩
    have HB3ab:=Lib.hid (zAd (HB3a.out) hb_)
    have X33ab:=Lib.hid (zAe (X33a.out) hb_)
    have X53ab:=Lib.hid (zAe (X53a.out) hb_)
    clear hb_
    have c533ab:=bc_ X53ab.out 3
    have c33ab:=bc_ X33ab.out 0
    clear HQ HR HRT HPA HFT
    cases fb with
    | false =>
     go_wp2_with fail
     refine (told_is false _).mono ?_
     rintro e_ w_ ⟨rfl,rfl⟩
     have hR : R = 5:=by rw [HT]; rfl
     subst hR
     clear HT
     go_wp2_with fail
     go_ret
     exact ⟨rfl,HB3ab.out⟩
    | true =>
     go_wp2_with fail
     refine (told_is true _).mono ?_
     rintro e_ w_ ⟨rfl,rfl⟩
     have hR : R = 0:=by rw [HT]; simp [ht2]
     subst hR
     clear HT
     go_wp2_with fail
     go_ret
     exact ⟨rfl,HB3ab.out⟩
   ·have hR5 : R = 5:=by have h:=HR.out; rw [if_neg (by rintro (⟨e,_⟩ | e); exact hd e; exact HX.out e),if_neg hd,if_pos (by rw [← HND.out]; exact hn4)] at h; exact h
    subst hR5
    clear HR
    go_wp2_with fail
    go_ret
    exact ⟨rfl,HB3a.out⟩
 ·have ht1:=zCb tx (by omega)
  have ht2 : ¬ (tx.data.toList = []):=by rw [← zAI]; exact ht1
  have ht3 : (tx.toList == []) = false:=by simpa using ht1
  clear ht
  have c533:=bc_ X53.out 3
  by_cases hd : d = -1
  ·have hpp : pp ≠ -1:=fun e => hnb ⟨hd,e⟩
   subst hd
   go_wp2_with fail
   refine (HM2.out W3 HB3.out).mono ?_
   rintro e_ W4 ⟨rfl,hb_⟩
   have HB4:=Lib.hid (zAd (HB3.out) hb_)
   have X34:=Lib.hid (zAe (X33.out) hb_)
   have X54:=Lib.hid (zAe (X53.out) hb_)
   clear hb_
   clear c33 c533
   by_cases hd2 : d2 = -1
   ·have hR3 : R = 3:=by have h:=HR.out; rw [if_pos (.inr ⟨ht2,hd2⟩)] at h; exact h
    subst hR3
    subst hd2
    clear HR HD HPR
    go_wp2_with fail
    go_ret
    exact ⟨rfl,HB4.out⟩
   have hx : ¬ (tx.data.toList ≠ [] ∧ d2 = -1):=fun e => hd2 e.2
   have HX:=Lib.hid hx
   have hd2b : (d2 == -1) = false:=by simpa using hd2
   have hppb : (pp == -1) = false:=by simpa using hpp
   have hb_ : Below W4.heap.size W4 (W4.alloc (.cells #[.int .i64 1] 3)):=zAa (Below.refl _ _) _
   have ho_:=c_one W4 1
   obtain ⟨W4a,hW4a⟩ : ∃ W_,W_ = W4.alloc (.cells #[.int .i64 1] 3):=⟨_,rfl⟩
   rw [← hW4a] at hb_ ho_
   have HO4a:=Lib.hid ho_
   have HB4a:=Lib.hid (zAd (HB4.out) hb_)
   have X34a:=Lib.hid (zAe (X34.out) hb_)
   have X54a:=Lib.hid (zAe (X54.out) hb_)
   clear hb_
   obtain ⟨bo',g',r',l',Lb',h⟩:=HS.out.below HB4a.out
   have cp0:=bc_ h.hp 0
   have c34a:=bc_ X34a.out 0
   have c544a:=bc_ X54a.out 4
   clear ho_
   have hpr:=HPR.out.resolve_left hpp
   have hRT : R = if (fitsF ns ol (kl.drop 1) (paramsF ns pp) && (decide (tx.data.toList = []) || (decide (nOf ns pp ≠ 0) && decide (kt = nOf ns pp)))) = true then 0 else 5:=by have h:=HR.out; rw [if_neg (by rintro (⟨_,e⟩ | e); exact hpp e; exact HX.out e),if_pos (by trivial)] at h; exact h
   obtain ⟨ad',A5,c5,eA,x0,x1,x2,x3,x4,l5,g5⟩:=at_T66 h.hC pp hpr.1 hpr.2
   have hn1 : nOf ns pp = (rd_T66 ns pp).f1:=rfl
   rw [← hn1] at x1
   obtain ⟨an,han⟩ : ∃ an,an = nOf ns pp:=⟨_,rfl⟩
   rw [← han] at x1 hRT
   obtain ⟨wl,hwl⟩ : ∃ wl,wl = paramsF ns pp:=⟨_,rfl⟩
   have HPB:=Lib.hid (fun (w' : World) (hb : Below w.heap.size w w') => HPA.out w' hb hpr.1 hpr.2)
   rw [← hwl] at hRT HPB
   have HRT:=Lib.hid hRT
   have e1:=eq_true hpr.1
   have e2:=eq_true hpr.2
   cases eA
   clear h x0 x2 x3 x4 l5 g5 hn1 hpr hRT han hwl
   subst hW4a
   go_wp2_with fail
   refine start_ (n:=14) (S:=fun w' => w'.cell? ⟨w.heap.size,0,none⟩ = some (.pointer (some ⟨p,0,none⟩)) ∧ w'.cell? ⟨p,0,none⟩ = some (.slice (some ad) ns.length ct) ∧ w'.cell? ⟨(ad.add (pp.toNat * 5)).block,(ad.add (pp.toNat * 5)).off + 1,none⟩ = some (.int .i64 an)) (ds:=[]) #[false,false,false,false,false,false,false,false,false,false,false,false,false,false] (by kernel_rfl) rfl rfl ⟨zAg c34a,zAg cp0,zAg x1⟩ (fun hHeld => ?_)
   refine pu_ 1 55 ?_
   refine pu_ 8 62 ?_
   refine ta_ 0 54 hHeld ?_
   refine ta_ 3 57 hHeld ?_
   refine pu_ 4 58 ?_
   refine pu_ 5 59 ?_
   refine pu_ 6 60 ?_
   refine ta_ 7 61 hHeld ?_
   refine pu_ 9 63 ?_
   refine pu_ 10 64 ?_
   refine ta_ 11 65 hHeld ?_
   refine on_ 2 (some 56) (fun K hK => ?_)
   refine gs_ Tryz.func36 #[.pointer (some ⟨p,0,none⟩),.int .i64 pp] ?_
   with_reducible refine (HPB.out _ (zAk HB4a.out)).mono ?_
   rintro e_ W4ap ⟨v_,rfl,hr_,hb_⟩
   obtain ⟨Aw,cw,rfl,hle_,hCw_⟩:=Kd.R_reads hr_
   refine ⟨_,rfl,?_⟩
   have HCw:=Lib.hid hCw_
   have y1:=zAb hb_ (zAg cp0)
   have y2:=zAb hb_ (zAg x1)
   have HB4ap:=Lib.hid (zAd (zAk (HB4a.out)) hb_)
   have X34ap:=Lib.hid (zAe (zAl (X34a.out)) hb_)
   have X54ap:=Lib.hid (zAe (zAl (X54a.out)) hb_)
   clear hb_
   have c34ap:=bc_ X34ap.out 0
   clear hr_ hCw_
   refine hK.out _ _ ⟨c34ap,y1,y2⟩ (fun hHeld => ?_)
   clear hK K
   refine no_ ?_
   refine pu_ 12 10 ?_
   refine pu_ 13 11 ?_
   refine done_ (by kernel_rfl) ?_
   have c544ap:=bc_ X54ap.out 4
   go_wp2_with fail
   obtain ⟨fb,hfb⟩ : ∃ fb,fb = fitsF ns ol (kl.drop 1) wl:=⟨_,rfl⟩
   have HT:=HRT.out
   rw [← hfb] at HT
   have HQ:=HFT.out w.heap.size Aw cw wl _ HB4ap.out HCw.out hle_ X34ap.out
   rw [← hfb] at HQ
   clear hfb
   refine HQ.mono ?_
   rintro e_ W4apb ⟨rfl,hb_⟩
   have HB4apb:=Lib.hid (zAd (HB4ap.out) hb_)
   have X34apb:=Lib.hid (zAe (X34ap.out) hb_)
   have X54apb:=Lib.hid (zAe (X54ap.out) hb_)
   clear hb_
   have c534apb:=bc_ X54apb.out 3
   have c34apb:=bc_ X34apb.out 0
   clear HQ HR HRT HPA HFT
   cases fb with
   | false =>
    go_wp2_with fail
    refine (told_is false _).mono ?_
    rintro e_ w_ ⟨rfl,rfl⟩
    have hR : R = 5:=by rw [HT]; rfl
    subst hR
    clear HT
    go_wp2_with fail
    go_ret
    exact ⟨rfl,HB4apb.out⟩
   | true =>
    rw [Bool.true_and,decide_eq_false ht2,Bool.false_or] at HT
    by_cases ha0 : an = 0
    ·subst ha0
     go_wp2_with fail
     refine (told_is false _).mono ?_
     rintro e_ w_ ⟨rfl,rfl⟩
     have hR : R = 5:=by rw [HT]; simp
     subst hR
     clear HT
     go_wp2_with fail
     go_ret
     exact ⟨rfl,HB4apb.out⟩
    ·have ha1 : decide (an ≠ 0) = true:=decide_eq_true ha0
     rw [ha1,Bool.true_and] at HT
     have ha1c : (an != 0) = true:=by simpa using ha0
     go_wp2_with fail
     refine (HKD.out _ HB4apb.out).mono ?_
     rintro e_ W4apbk ⟨rfl,hb_⟩
     have HB4apbk:=Lib.hid (zAd (HB4apb.out) hb_)
     have X34apbk:=Lib.hid (zAe (X34apb.out) hb_)
     have X54apbk:=Lib.hid (zAe (X54apb.out) hb_)
     clear hb_
     by_cases hka : kt = an
     ·subst hka
      go_wp2_with fail
      refine (told_is true _).mono ?_
      rintro e_ w_ ⟨rfl,rfl⟩
      have hR : R = 0:=by rw [HT]; simp [*]
      subst hR
      clear HT
      go_wp2_with fail
      go_ret
      exact ⟨rfl,HB4apbk.out⟩
     ·have hkb : (kt == an) = false:=by simpa using hka
      go_wp2_with fail
      refine (told_is false _).mono ?_
      rintro e_ w_ ⟨rfl,rfl⟩
      have hR : R = 5:=by rw [HT]; simp [hka]
      subst hR
      clear HT
      go_wp2_with fail
      go_ret
      exact ⟨rfl,HB4apbk.out⟩
  ·skip
   go_wp2_with fail
   refine (HM2.out W3 HB3.out).mono ?_
   rintro e_ W4 ⟨rfl,hb_⟩
   have HB4:=Lib.hid (zAd (HB3.out) hb_)
   have X34:=Lib.hid (zAe (X33.out) hb_)
   have X54:=Lib.hid (zAe (X53.out) hb_)
   clear hb_
   clear c33 c533
   by_cases hd2 : d2 = -1
   ·have hR3 : R = 3:=by have h:=HR.out; rw [if_pos (.inr ⟨ht2,hd2⟩)] at h; exact h
    subst hR3
    subst hd2
    clear HR HD HPR
    go_wp2_with fail
    go_ret
    exact ⟨rfl,HB4.out⟩
   have hx : ¬ (tx.data.toList ≠ [] ∧ d2 = -1):=fun e => hd2 e.2
   have HX:=Lib.hid hx
   have hd2b : (d2 == -1) = false:=by simpa using hd2
   have hb_ : Below W4.heap.size W4 (W4.alloc (.cells #[.int .i64 1] 3)):=zAa (Below.refl _ _) _
   have ho_:=c_one W4 1
   obtain ⟨W4a,hW4a⟩ : ∃ W_,W_ = W4.alloc (.cells #[.int .i64 1] 3):=⟨_,rfl⟩
   rw [← hW4a] at hb_ ho_
   have HO4a:=Lib.hid ho_
   have HB4a:=Lib.hid (zAd (HB4.out) hb_)
   have X34a:=Lib.hid (zAe (X34.out) hb_)
   have X54a:=Lib.hid (zAe (X54.out) hb_)
   clear hb_
   obtain ⟨bo',g',r',l',Lb',h⟩:=HS.out.below HB4a.out
   have cp0:=bc_ h.hp 0
   have c34a:=bc_ X34a.out 0
   have c544a:=bc_ X54a.out 4
   clear ho_
   have hdr:=HD.out.resolve_left hd
   obtain ⟨ad',A5,c5,eA,x0,x1,x2,x3,x4,l5,g5⟩:=at_T66 h.hC d hdr.1 hdr.2
   have hn1 : nOf ns d = (rd_T66 ns d).f1:=rfl
   rw [← hn1] at x1
   obtain ⟨nd,hnd⟩ : ∃ nd,nd = nOf ns d:=⟨_,rfl⟩
   rw [← hnd] at x1
   have HND:=Lib.hid hnd
   have e1:=eq_true hdr.1
   have e2:=eq_true hdr.2
   cases eA
   clear h x0 x2 x3 x4 l5 g5 hn1 hnd hdr
   subst hW4a
   by_cases hn4 : nd = 4
   ·subst hn4
    have hRT : R = if (fitsF ns ol (kl.drop 1) [1] && (decide (tx.data.toList = []) || (decide ((1 : Int) ≠ 0) && decide (kt = 1)))) = true then 0 else 5:=by have h:=HR.out; rw [if_neg (by rintro (⟨e,_⟩ | e); exact hd e; exact HX.out e),if_neg hd,if_neg (by rw [← HND.out]; exact fun h => h rfl)] at h; exact h
    have HRT:=Lib.hid hRT
    clear hRT
    go_wp2_with fail
    obtain ⟨fb,hfb⟩ : ∃ fb,fb = fitsF ns ol (kl.drop 1) [1]:=⟨_,rfl⟩
    have HT:=HRT.out
    rw [← hfb] at HT
    have HQ:=HFT.out w.heap.size _ 1 [1] _ HB4a.out HO4a.out (Nat.le_refl _) X34a.out
    rw [← hfb] at HQ
    clear hfb
    refine HQ.mono ?_
    rintro e_ W4ab ⟨rfl,hb_⟩
    have HB4ab:=Lib.hid (zAd (HB4a.out) hb_)
    have X34ab:=Lib.hid (zAe (X34a.out) hb_)
    have X54ab:=Lib.hid (zAe (X54a.out) hb_)
    clear hb_
    have c534ab:=bc_ X54ab.out 3
    have c34ab:=bc_ X34ab.out 0
    clear HQ HR HRT HPA HFT
    cases fb with
    | false =>
     go_wp2_with fail
     refine (told_is false _).mono ?_
     rintro e_ w_ ⟨rfl,rfl⟩
     have hR : R = 5:=by rw [HT]; rfl
     subst hR
     clear HT
     go_wp2_with fail
     go_ret
     exact ⟨rfl,HB4ab.out⟩
    | true =>
     rw [Bool.true_and,decide_eq_false ht2,Bool.false_or] at HT
     go_wp2_with fail
     refine (HKD.out _ HB4ab.out).mono ?_
     rintro e_ W4abk ⟨rfl,hb_⟩
     have HB4abk:=Lib.hid (zAd (HB4ab.out) hb_)
     have X34abk:=Lib.hid (zAe (X34ab.out) hb_)
     have X54abk:=Lib.hid (zAe (X54ab.out) hb_)
     clear hb_
     by_cases hka : kt = 1
     ·subst hka
      go_wp2_with fail
      refine (told_is true _).mono ?_
      rintro e_ w_ ⟨rfl,rfl⟩
      have hR : R = 0:=by rw [HT]; simp
      subst hR
      clear HT
      go_wp2_with fail
      go_ret
      exact ⟨rfl,HB4abk.out⟩
     ·have hkb : (kt == 1) = false:=by simpa using hka
      go_wp2_with fail
      refine (told_is false _).mono ?_
      rintro e_ w_ ⟨rfl,rfl⟩
      have hR : R = 5:=by rw [HT]; simp [hka]
      subst hR
      clear HT
      go_wp2_with fail
      go_ret
      exact ⟨rfl,HB4abk.out⟩
   ·have hR5 : R = 5:=by have h:=HR.out; rw [if_neg (by rintro (⟨e,_⟩ | e); exact hd e; exact HX.out e),if_neg hd,if_pos (by rw [← HND.out]; exact hn4)] at h; exact h
    subst hR5
    clear HR
    go_wp2_with fail
    go_ret
    exact ⟨rfl,HB4a.out⟩
end Go.Proofs.YtkhlfdcjgooogaaGreat.P
