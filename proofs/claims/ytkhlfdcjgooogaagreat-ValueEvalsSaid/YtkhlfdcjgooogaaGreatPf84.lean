import Derived.Test.YtkhlfdcjgooogaaGreatWMore
import Derived.Test.YtkhlfdcjgooogaaGreatReI
import Derived.Test.YtkhlfdcjgooogaaGreatTyK
import Derived.Deep.CutBlock
import Derived.Test.YtkhlfdcjgooogaaGreatPf103
set_option maxRecDepth 100000
set_option maxHeartbeats 16000000
set_option linter.unusedVariables false
set_option linter.unusedSimpArgs false
set_option linter.unusedSectionVars false
namespace Go.Proofs.YtkhlfdcjgooogaaGreat.P
open Go.RowKit Go.Proofs.YtkhlfdcjgooogaaGreatW.PrintWords Go.Proofs.YtkhlfdcjgooogaaGreatW.PrintLast Go.Proofs.YtkhlfdcjgooogaaGreatW.PrintMore
theorem kid_pre {ns : List S66} {A4 : Option Addr} {kl : List Int} {w : World} (hC : Kd.C (Kd.int .i64) w A4 kl.length kl) (i : Nat) (hi : i < kl.length) : ∃ adK,A4 = some adK ∧ w.cell? (adK.add i) = some (.int .i64 kl[i]):=by
 obtain ⟨adK,eK,y0⟩:=Kd.at_int hC (i : Int) (by omega) (by omega)
 have hq : rd kl (i : Int) = kl[i]:=by simp [rd,hi]
 rw [hq,Int.toNat_natCast] at y0
 exact ⟨adK,eK,y0⟩
theorem zCd (a : Addr) : a.add 0 = a:=by obtain ⟨b,o,n⟩:=a; cases n <;> simp [Addr.add]
theorem zCB {At : Option Addr} {ns : List S66} {w : World} (hC : Kd.C k66 w At ns.length ns) {q : Int} (h0 : 0 ≤ q) (h1 : q < ns.length) : ∃ ad s n,At = some ad ∧ nmOf ns q = s.data.toList ∧ nOf ns q = n ∧ w.cell? ⟨(ad.add (q.toNat * 5)).block,(ad.add (q.toNat * 5)).off + 3,none⟩ = some (.string s) ∧ w.cell? ⟨(ad.add (q.toNat * 5)).block,(ad.add (q.toNat * 5)).off + 1,none⟩ = some (.int .i64 n):=by
 obtain ⟨ad,A4,c4,eA,z0,z1,z2,z3,z4,l4,g4⟩:=at_T66 hC q h0 h1
 exact ⟨ad,_,_,eA,rfl,rfl,z3,z1⟩
theorem callT_if (ns : List S66) (ol : List Int) (q : Int) (tx : Nm) (kl wl : List Int) (ans : Int) : callT ns ol q tx kl wl ans = if (fitsF ns ol (kl.drop 1) wl && (decide (tx = []) || (decide (ans ≠ 0) && decide (kindF ns ol q tx = ans)))) = true then 0 else 5:=rfl
theorem rcall_is (At : Option Addr) (ct : Nat) (ns : List S66) (root : Int) (ol ps : List Int) (q : Int) (h0 : 0 ≤ q) (h1 : q < ns.length) (hk1 : 0 < (rd_T66 ns q).f4.length) (w : World) (hW : RW At ct ns root ol ps w) :
  Calls Tryz.prog 88 #[.agg #[.slice At ns.length ct,.int .i64 root],.int .i64 q] w fun e w' => e = .returned (.int .i64 (callF ns ol q (nmOf ns (rd (rd_T66 ns q).f4 0)) (nmOf ns q) (rd_T66 ns q).f4)) ∧ Below w.heap.size w w':=by
 obtain ⟨ad,A4,c4,k,n,at_,tx,kl,W1,rfl,hx0,cb,z0,z1,z2,z3,z4,hW1,hb1,x1,n1,hCk,hkl⟩:=zCx (ct:=ct) (root:=root) hW.hC h0 h1
 have hmem:=zAA ns q h0 h1
 have hkn:=(hW.hR.fit.2 _ hmem).1
 have hkl4:=(hW.hR.fit.2 _ hmem).2.1
 have hk0 : kdOf ns q = k:=by unfold kdOf; rw [hx0]
 have ht0 : nmOf ns q = tx.data.toList:=by unfold nmOf; rw [hx0]
 rw [hx0] at hkn hkl4
 dsimp only at hkn hkl4
 have HB1:=Lib.hid hb1
 have X1:=Lib.hid x1
 have N1:=Lib.hid n1
 have HW1:=Lib.hid hW1
 have HW:=Lib.hid hW
 have HCK:=Lib.hid hCk
 have e0:=eq_true h0
 have e1:=eq_true h1
 have c10:=bc_ X1.out 0
 have c11:=bc_ X1.out 1
 have n10:=bc_ N1.out 0
 have n13:=bc_ N1.out 3
 have n14:=bc_ N1.out 4
 rw [HW1.out] at c10 c11 n10 n13 n14
 rw [ht0]
 rw [hx0] at hk1 ⊢
 dsimp only at hk1 ⊢
 obtain ⟨adK,eK,y0⟩:=kid_pre (ns:=ns) (Kd.C_below hCk hb1) 0 hk1
 have hv0 : rd kl 0 = kl[0]:=by simp [rd,hk1]
 have hin0:=hkn _ (List.getElem_mem hk1)
 obtain ⟨v0,hv⟩ : ∃ v,v = kl[0]:=⟨_,rfl⟩
 rw [← hv] at y0 hv0 hin0
 rw [hv0]
 rw [zCd] at y0
 obtain ⟨ad',s0,n0',eA',hs0,hn0',x3,_⟩:=zCB (hW.below hb1).hC hin0.1 hin0.2
 cases eA'
 rw [hs0]
 have HD:=Lib.hid (fun (W : World) (hb : Below w.heap.size w W) => zCD (some ad) ct ns root ol ps q h0 h1 s0 W (hW.below hb))
 have HM2:=Lib.hid (fun (W : World) (hb : Below w.heap.size w W) => zCD (some ad) ct ns root ol ps q h0 h1 tx W (hW.below hb))
 have HK2:=Lib.hid (fun (W : World) (hb : Below w.heap.size w W) => zDr (some ad) ct ns root ol ps q h0 h1 tx W (hW.below hb))
 have hrt:=rt_in hW.hR
 have HP:=Lib.hid (fun (W : World) (hb : Below w.heap.size w W) => of_is (some ad) ct ns root root hrt.1 hrt.2 hW.hR.kidsIn 3 3 s0 W (hW.below hb).hC hW.hct)
 rw [of_pr hW.hR] at HP
 have HPA:=Lib.hid (fun (p : Int) (p0 : 0 ≤ p) (p1 : p < ns.length) (W : World) (hb : Below w.heap.size w W) => zCL (some ad) ct ns root p p0 p1 hW.hR.kidsIn W (hW.below hb).hC hW.hct)
 have HTY:=Lib.hid (fun (p : Int) (p0 : 0 ≤ p) (p1 : p < ns.length) (W : World) (hb : Below w.heap.size w W) => zCE (some ad) ct ns root ol ps p p0 p1 W (hW.below hb))
 have HKN:=Lib.hid hkn
 have HFIT:=Lib.hid hW.hR.fit.2
 have HCKW:=Lib.hid (fun (W : World) (hb : Below w.heap.size w W) => Kd.C_below hCk hb)
 have HWC:=Lib.hid (fun (W : World) (hb : Below w.heap.size w W) => (hW.below hb).hC)
 have hDR:=zBc ns ol q s0.data.toList
 have hPR:=zBd ns s0.data.toList
 have hMR:=zBc ns ol q tx.data.toList
 have hcall : callF ns ol q s0.data.toList tx.data.toList kl = if (meansF ns ol q s0.data.toList = -1 ∧ procF ns s0.data.toList = -1) ∨ (tx.data.toList ≠ [] ∧ meansF ns ol q tx.data.toList = -1) then 3
  else if meansF ns ol q s0.data.toList = -1 then callT ns ol q tx.data.toList kl (paramsF ns (procF ns s0.data.toList)) (nOf ns (procF ns s0.data.toList))
  else if nOf ns (meansF ns ol q s0.data.toList) ≠ 4 then 5 else callT ns ol q tx.data.toList kl [1] 1:=rfl
 obtain ⟨R,hR⟩ : ∃ R,R = callF ns ol q s0.data.toList tx.data.toList kl:=⟨_,rfl⟩
 obtain ⟨d,hd⟩ : ∃ d,d = meansF ns ol q s0.data.toList:=⟨_,rfl⟩
 obtain ⟨pp,hpp⟩ : ∃ pp,pp = procF ns s0.data.toList:=⟨_,rfl⟩
 obtain ⟨d2,hd2⟩ : ∃ d2,d2 = meansF ns ol q tx.data.toList:=⟨_,rfl⟩
 rw [← hR,← hd,← hpp,← hd2] at hcall
 rw [← hd] at hDR HD
 rw [← hpp] at hPR HP
 rw [← hd2] at hMR HM2
 rw [← hR]
 have HCALL:=Lib.hid hcall
 have HDR:=Lib.hid hDR
 have HPR:=Lib.hid hPR
 have HMR:=Lib.hid hMR
 have HTN : Hid (tx.data.toList = [] ↔ (tx.toList == []) = true):=Lib.hid (by rw [zAI]; simp)
 have i0 : (0 < kl.length) = True:=eq_true hk1
 have j0:=eq_true hin0.1
 have j1:=eq_true hin0.2
 clear hW hx0 hmem hkn hk0 ht0 hb1 x1 n1 hCk hv hv0 hin0 hrt hs0 hn0' hDR hPR hMR hcall hR hd hpp hd2 n10
 cases eK
 rw [hW1] at y0 x3
 clear hW1
 go_enter Tryz.func88,Tryz.ntmps88
 go_wp2_with fail
 go_quiet (fail)
 go_wp2_with fail
 rw [← HW1.out]
 obtain ⟨W2,hW2⟩ : ∃ W2,W2 = W1.drewN nq:=⟨_,rfl⟩
 have hb2 : Below W1.heap.size W1 W2:=by rw [hW2]; exact zAf (Below.refl _ _) _
 have HB2:=Lib.hid (zAd HB1.out hb2)
 have X2:=Lib.hid (zAe X1.out hb2)
 have N2:=Lib.hid (zAe N1.out hb2)
 rw [← hW2]
 clear hW2 hb2 c10 c11 n13 n14 y0 x3
 refine (HD.out W2 HB2.out).mono ?_
 rintro e_ W3 ⟨rfl,hb_⟩
 have HB3:=Lib.hid (zAd HB2.out hb_)
 have X3:=Lib.hid (zAe X2.out hb_)
 have N3:=Lib.hid (zAe N2.out hb_)
 clear hb_
 have c0:=bc_ X3.out 0
 have c1:=bc_ X3.out 1
 go_wp2_with fail
 refine (HP.out W3 HB3.out).mono ?_
 rintro e_ W4 ⟨rfl,hb_⟩
 have HB4:=Lib.hid (zAd HB3.out hb_)
 have X4:=Lib.hid (zAe X3.out hb_)
 have N4:=Lib.hid (zAe N3.out hb_)
 clear hb_ c0 c1
 go_upto_region 5 with fail
 obtain ⟨bad,hbad⟩ : ∃ bad,bad = decide ((d = -1 ∧ pp = -1) ∨ (tx.data.toList ≠ [] ∧ d2 = -1)):=⟨_,rfl⟩
 have HBAD:=Lib.hid hbad
 clear hbad
 go_cut [53] (fun v53 wc => v53 = .bool bad ∧ Hid (Below W4.heap.size W4 wc))
 case first =>
  have c0:=bc_ X4.out 0
  have c1:=bc_ X4.out 1
  have n3:=bc_ N4.out 3
  have hdc : (d = -1 ∧ pp = -1) ∨ (d = -1 ∧ ¬ pp < 0) ∨ (¬ d < 0):=by have:=HDR.out; have:=HPR.out; omega
  rcases hdc with ⟨rfl,rfl⟩ | hdc
  ·go_wp2_with fail
   go_meet
   case rel => exact ⟨by rw [show bad = true from by rw [HBAD.out]; exact decide_eq_true (by simp)],Lib.hid (Below.refl _ _)⟩
  ·have hnn : ¬ (d = -1 ∧ pp = -1):=by omega
   have HNN:=Lib.hid hnn
   clear hnn
   rcases hdc with ⟨rfl,hpn⟩ | hdn <;> (
    cases te : tx.toList == [] with
    | true =>
     have hte:=HTN.out.2 te
     have HTE:=Lib.hid hte
     clear hte
     have te2:=eq_of_beq te
     go_wp2_with fail
     go_meet
     case rel => exact ⟨by rw [show bad = false from by rw [HBAD.out]; exact decide_eq_false (by rintro (h | h); exact HNN.out h; exact h.1 HTE.out)],Lib.hid (Below.refl _ _)⟩
    | false =>
     have hte : ¬ tx.data.toList = []:=fun h => by rw [HTN.out.1 h] at te; cases te
     have HTE:=Lib.hid hte
     clear hte
     have te2 : ¬ tx.toList = []:=fun h => by rw [h] at te; cases te
     go_wp2_with fail
     refine (HM2.out W4 HB4.out).mono ?_
     rintro e_ W5 ⟨rfl,hb_⟩
     have HB5:=Lib.hid hb_
     clear hb_ c0 c1 n3
     by_cases hm : d2 = -1
     ·subst hm
      go_wp2_with fail
      go_meet
      case rel => exact ⟨by rw [show bad = true from by rw [HBAD.out]; exact decide_eq_true (.inr ⟨HTE.out,by trivial⟩)],HB5⟩
     ·have hmn : ¬ d2 < 0:=by have:=HMR.out; omega
      have hmb : decide (d2 < 0) = false:=decide_eq_false hmn
      have HMN:=Lib.hid hm
      clear hm
      go_wp2_with fail
      go_meet
      case rel => exact ⟨by rw [show bad = false from by rw [HBAD.out]; exact decide_eq_false (by rintro (h | h); exact HNN.out h; exact HMN.out h.2)],HB5⟩)
 case rest =>
  obtain ⟨rfl,HBC⟩:=hcut
  have HB5:=Lib.hid (zAd HB4.out HBC.out)
  have X5:=Lib.hid (zAe X4.out HBC.out)
  have N5:=Lib.hid (zAe N4.out HBC.out)
  clear HBC
  by_cases hbad : (d = -1 ∧ pp = -1) ∨ (tx.data.toList ≠ [] ∧ d2 = -1)
  ·have h:=HCALL.out
   rw [if_pos hbad] at h
   have HV:=Lib.hid h
   rw [show bad = true from by rw [HBAD.out]; exact decide_eq_true hbad]
   clear h HCALL hbad HBAD
   go_wp2_with fail
   go_ret
   exact ⟨by rw [HV.out]; rfl,HB5.out⟩
  have h:=HCALL.out
  rw [if_neg hbad] at h
  rw [show bad = false from by rw [HBAD.out]; exact decide_eq_false hbad]
  have HV:=Lib.hid h
  have HNB:=Lib.hid hbad
  clear h HCALL hbad HBAD
  go_upto_if 56 with fail
  obtain ⟨W6,hW6⟩ : ∃ W6,W6 = wc.alloc (.cells #[.int .i64 1] 3):=⟨_,rfl⟩
  have hb6 : Below wc.heap.size wc W6:=by rw [hW6]; exact zAa (Below.refl _ _) _
  have HC6:=Lib.hid (show Kd.C (Kd.int .i64) W6 (some ⟨wc.heap.size,0,none⟩) 1 [1] by rw [hW6]; exact c_one wc 1)
  have HB6:=Lib.hid (zAd HB5.out hb6)
  have X6:=Lib.hid (zAe X5.out hb6)
  have N6:=Lib.hid (zAe N5.out hb6)
  rw [← hW6]
  clear hW6 hb6
  obtain ⟨gw,hgw⟩ : ∃ gw,gw = wc.heap.size:=⟨_,rfl⟩
  rw [← hgw] at HC6 ⊢
  clear hgw
  go_cut [9,10] (fun v9 v10 wc => ∃ (Aw : Option Addr) (wl : List Int) (cw : Nat) (ans : Int),v9 = .slice Aw wl.length cw ∧ v10 = .int .i64 ans ∧ Hid (R = callT ns ol q tx.data.toList kl wl ans) ∧ Hid (Kd.C (Kd.int .i64) wc Aw wl.length wl) ∧ Hid (Below W6.heap.size W6 wc) ∧ wl.length ≤ 4000)
  case first =>
   have c0:=bc_ X6.out 0
   have c1:=bc_ X6.out 1
   by_cases hd : d = -1
   ·have h:=HV.out
    rw [if_pos hd] at h
    have hin:=HPR.out.resolve_left (fun h => HNB.out (.inl ⟨hd,h⟩))
    have HPX:=Lib.hid (HPA.out pp hin.1 hin.2 W6 HB6.out)
    have HL:=Lib.hid (show (paramsF ns pp).length ≤ 4000 by
     have h1 : (paramsF ns pp).length ≤ (rd_T66 ns pp).f4.length:=by unfold paramsF parsL; rw [List.length_map]; exact List.length_filter_le _ _
     have h2:=(HFIT.out _ (zAA ns pp hin.1 hin.2)).2.1
     omega)
    obtain ⟨wl,hwl⟩ : ∃ wl,wl = paramsF ns pp:=⟨_,rfl⟩
    rw [← hwl] at h HPX HL
    have HV2:=Lib.hid h
    have e2:=eq_true hin.1
    have e3:=eq_true hin.2
    have HIN:=Lib.hid hin
    clear h hwl hin
    subst hd
    go_wp2_with fail
    refine HPX.out.mono ?_
    rintro e_ W7 ⟨v_,rfl,hr_,hb_⟩
    obtain ⟨Ap,cp,rfl,hle_,hCp_⟩:=Kd.R_reads hr_
    have HB7:=Lib.hid hb_
    have HC7:=Lib.hid hCp_
    have X7:=Lib.hid (zAe X6.out hb_)
    clear hb_ hr_ hCp_ c0 c1
    have c0:=bc_ X7.out 0
    obtain ⟨ad',s',n',eA',_,hn',_,x1⟩:=zCB (HWC.out W7 (zAd HB6.out HB7.out)) HIN.out.1 HIN.out.2
    cases eA'
    have HN':=Lib.hid hn'
    clear hn'
    go_wp2_with fail
    go_meet
    case rel => exact ⟨Ap,wl,cp,n',rfl,rfl,Lib.hid (by rw [HV2.out,HN'.out]),HC7,HB7,HL.out⟩
   ·have h:=HV.out
    rw [if_neg hd] at h
    have hin:=HDR.out.resolve_left hd
    have hno : ¬ d < 0:=by omega
    obtain ⟨ad',s',n',eA',_,hn',_,x1⟩:=zCB (HWC.out W6 HB6.out) hin.1 hin.2
    cases eA'
    rw [hn'] at h
    have HV2:=Lib.hid h
    have e2:=eq_true hin.1
    have e3:=eq_true hin.2
    clear h hn' hin
    by_cases hn4 : n' = 4
    ·subst hn4
     have h:=HV2.out
     rw [if_neg (by decide)] at h
     have HV3:=Lib.hid h
     clear h HV2
     go_wp2_with fail
     go_meet
     case rel => exact ⟨some ⟨gw,0,none⟩,[1],1,1,rfl,rfl,HV3,HC6,Lib.hid (Below.refl _ _),by decide⟩
    ·have h:=HV2.out
     rw [if_pos hn4] at h
     have HV3:=Lib.hid h
     clear h HV2
     go_wp2_with fail
     go_ret
     exact ⟨by rw [HV3.out]; rfl,HB6.out⟩
  case rest =>
   obtain ⟨Aw,wl,cw,ans,rfl,rfl,HV2,HCW,HBC,hwl4⟩:=hcut
   have HB7:=Lib.hid (zAd HB6.out HBC.out)
   have X7:=Lib.hid (zAe X6.out HBC.out)
   have N7:=Lib.hid (zAe N6.out HBC.out)
   clear HBC
   rw [callT_if] at HV2
   have hwr : IntKind.i64.wrap ((wl.length : Int) + 1) = (wl.length : Int) + 1:=by unfold IntKind.wrap; simp [IntKind.bits,IntKind.signed] <;> omega
   obtain ⟨kk,hkk⟩ : ∃ kk,kk = kindF ns ol q tx.data.toList:=⟨_,rfl⟩
   rw [← hkk] at HK2 HV2
   obtain ⟨ok2,hok2⟩ : ∃ b,b = (decide (kl.length = wl.length + 1) && (decide (tx.data.toList = []) || (decide (ans ≠ 0) && decide (kk = ans)))):=⟨_,rfl⟩
   have HOK:=Lib.hid hok2
   clear hkk hok2
   go_upto_region 14 with fail
   go_cut [97] (fun v97 wd => v97 = .bool (!ok2) ∧ Hid (Below wc.heap.size wc wd))
   case first =>
    have c0:=bc_ X7.out 0
    have c1:=bc_ X7.out 1
    have n3:=bc_ N7.out 3
    have n4:=bc_ N7.out 4
    by_cases hlen : (kl.length : Int) = (wl.length : Int) + 1
    ·have HLN:=Lib.hid (show kl.length = wl.length + 1 by omega)
     cases te : tx.toList == [] with
     | true =>
      have HTE:=Lib.hid (HTN.out.2 te)
      have te2:=eq_of_beq te
      go_wp2_with fail
      go_meet
      case rel => exact ⟨by rw [HOK.out,decide_eq_true HLN.out,decide_eq_true HTE.out]; first | rfl | simp [*],Lib.hid (Below.refl _ _)⟩
     | false =>
      have HTE : Hid (¬ tx.data.toList = []):=Lib.hid (fun h => by rw [HTN.out.1 h] at te; cases te)
      have te2 : ¬ tx.toList = []:=fun h => by rw [h] at te; cases te
      by_cases ha : ans = 0
      ·subst ha
       go_wp2_with fail
       go_meet
       case rel => exact ⟨by rw [HOK.out,decide_eq_true HLN.out,decide_eq_false HTE.out]; first | rfl | simp [*],Lib.hid (Below.refl _ _)⟩
      ·have hab : (ans == 0) = false:=beq_eq_false_iff_ne.2 ha
       go_wp2_with fail
       refine (HK2.out wc HB7.out).mono ?_
       rintro e_ W8 ⟨rfl,hb_⟩
       have HB8:=Lib.hid hb_
       clear hb_ c0 c1 n3 n4
       go_wp2_with fail
       go_meet
       case rel => exact ⟨by rw [HOK.out,decide_eq_true HLN.out,decide_eq_false HTE.out,decide_eq_true ha]; by_cases hka : kk = ans <;> simp [hka],HB8⟩
    ·have HLN:=Lib.hid (show ¬ kl.length = wl.length + 1 by omega)
     go_wp2_with fail
     go_meet
     case rel => exact ⟨by rw [HOK.out,decide_eq_false HLN.out]; first | rfl | simp [*],Lib.hid (Below.refl _ _)⟩
   case rest =>
    obtain ⟨rfl,HBD⟩:=hcut
    have HB8:=Lib.hid (zAd HB7.out HBD.out)
    have X8:=Lib.hid (zAe X7.out HBD.out)
    have N8:=Lib.hid (zAe N7.out HBD.out)
    have HCW8:=Lib.hid (Kd.C_below HCW.out HBD.out)
    clear HBD X7 N7 HB7 HCW
    cases ok2 with
    | false =>
     have hv : R = 5:=by
      rw [HV2.out,if_neg]
      unfold fitsF
      intro h
      have h5:=HOK.out
      simp only [Bool.and_eq_true,decide_eq_true_eq] at h
      have hl : kl.length = wl.length + 1:=by have:=h.1.1; rw [List.length_drop] at this; omega
      rw [decide_eq_true hl,Bool.true_and,h.2] at h5
      cases h5
     have HV:=Lib.hid hv
     clear hv HV2
     go_wp2_with fail
     go_ret
     exact ⟨by rw [HV.out]; rfl,HB8.out⟩
    | true =>
     have hl : kl.length = wl.length + 1:=by
      have h5:=HOK.out
      have h6:=h5.symm
      simp only [Bool.and_eq_true,decide_eq_true_eq] at h6
      exact h6.1
     have hv : R = if pairsB ns ol ((kl.drop 1).zip wl) = true then 0 else 5:=by
      have h5:=HOK.out.symm
      rw [Bool.and_eq_true] at h5
      rw [HV2.out,h5.2,Bool.and_true]
      unfold fitsF
      rw [decide_eq_true (show (kl.drop 1).length = wl.length by rw [List.length_drop]; omega),Bool.true_and]
     have HV:=Lib.hid hv
     clear hv HV2 HOK
     go_wp2_with fail
     go_loopg [11] (wl.length + 1) (fun kq v11 W => ∃ i : Nat,v11 = .int .i64 i ∧ i ≤ wl.length ∧ Hid (i + kq = wl.length + 1) ∧ Hid (pairsB ns ol ((kl.drop 1).zip wl) = pairsB ns ol ((kl.drop (i + 1)).zip (wl.drop i))) ∧ Hid (Below wc.heap.size wc W))
     case atStart => exact ⟨0,rfl,Nat.zero_le _,Lib.hid (by omega),Lib.hid rfl,Lib.hid (Below.refl _ _)⟩
     case round =>
      obtain ⟨i,rfl,hi,HN,HO,HB⟩:=hrel
      by_cases hlt : i < wl.length
      ·obtain ⟨adw,ew,yw⟩:=kid_pre (ns:=ns) (Kd.C_below HCW8.out HB.out) i hlt
       obtain ⟨adk',ek,yk⟩:=kid_pre (ns:=ns) (HCKW.out wr (zAd HB8.out HB.out)) (i + 1) (by omega)
       cases ek
       have hin:=HKN.out kl[i + 1] (List.getElem_mem (by omega))
       have hst : pairsB ns ol ((kl.drop (i + 1)).zip (wl.drop i)) = (exprF ns ol kl[i + 1] == wl[i] && pairsB ns ol ((kl.drop (i + 1 + 1)).zip (wl.drop (i + 1)))):=by
        rw [List.drop_eq_getElem_cons (show i + 1 < kl.length by omega),List.drop_eq_getElem_cons hlt]; rfl
       have HST:=Lib.hid (HO.out.trans hst)
       obtain ⟨v,hv⟩ : ∃ v,v = kl[i + 1]:=⟨_,rfl⟩
       obtain ⟨wi,hwi⟩ : ∃ wi,wi = wl[i]:=⟨_,rfl⟩
       rw [← hv] at yk hin HST
       rw [← hwi] at yw HST
       have HT:=Lib.hid (HTY.out v hin.1 hin.2 wr.drew (zAk (zAd HB8.out HB.out)))
       obtain ⟨te,hte⟩ : ∃ te,te = exprF ns ol v:=⟨_,rfl⟩
       rw [← hte] at HT HST
       have c0:=bc_ (zAe X8.out HB.out) 0
       have c1:=bc_ (zAe X8.out HB.out) 1
       have n4:=bc_ (zAe N8.out HB.out) 4
       have hwi1 : IntKind.i64.wrap ((i : Int) + 1) = (i : Int) + 1:=by unfold IntKind.wrap; simp [IntKind.bits,IntKind.signed] <;> omega
       have i1 : (i : Int) + 1 < (kl.length : Int):=by omega
       have i2 : (0 : Int) ≤ (i : Int) + 1:=by omega
       have i3 : ((i : Int) + 1).toNat = i + 1:=by omega
       have i4 : i + 1 < kl.length:=by omega
       have yk : wr.cell? ⟨adK.block,adK.off + (i + 1),none⟩ = some (.int .i64 v):=yk
       clear hst hin hv hwi hte HO
       cases ew
       go_wp2_with fail
       refine start_ (n:=13) (S:=fun w' => w'.cell? ⟨w.heap.size,0,none⟩ = some (.slice (some ad) ns.length ct) ∧ w'.cell? ⟨w.heap.size,1,none⟩ = some (.int .i64 root) ∧ w'.cell? ⟨w.heap.size + 1,4,none⟩ = some (.slice (some adK) kl.length c4) ∧ w'.cell? ⟨adK.block,adK.off + (i + 1),none⟩ = some (.int .i64 v) ∧ w'.cell? (adw.add i) = some (.int .i64 wi)) (ds:=[]) #[false,false,false,false,false,false,false,false,false,false,false,false,false] (by kernel_rfl) rfl rfl ⟨zAg c0,zAg c1,zAg n4,zAg yk,zAg yw⟩ (fun hHeld => ?_)
       refine pu_ 1 105 ?_
       refine pu_ 3 107 ?_
       refine pu_ 4 108 ?_
       refine pu_ 8 112 ?_
       refine pu_ 9 113 ?_
       refine pu_ 10 114 ?_
       refine ta_ 0 104 hHeld ?_
       refine ta_ 2 106 hHeld ?_
       refine pu_ 5 109 ?_
       refine ta_ 6 110 hHeld ?_
       refine ta_ 11 115 hHeld ?_
       refine on_ 7 (some 111) (fun K hK => ?_)
       refine gs_ Tryz.func87 #[.agg #[.slice (some ad) ns.length ct,.int .i64 root],.int .i64 v] ?_
       with_reducible refine (HT.out).mono ?_
       rintro e_ w6 ⟨rfl,hb_⟩
       refine ⟨_,rfl,?_⟩
       have HB6:=Lib.hid (zAd (zAk HB.out) hb_)
       have q0:=zAb hb_ (zAg c0)
       have q1:=zAb hb_ (zAg c1)
       have q2:=zAb hb_ (zAg n4)
       have q3:=zAb hb_ (zAg yk)
       have q4:=zAb hb_ (zAg yw)
       clear hb_
       refine hK.out _ _ ⟨q0,q1,q2,q3,q4⟩ (fun hHeld => ?_)
       clear hK K
       refine no_ ?_
       refine pu_ 12 116 ?_
       refine done_ (by kernel_rfl) ?_
       by_cases he : te = wi
       ·have h:=HST.out
        rw [he,beq_self_eq_true,Bool.true_and] at h
        have HST1:=Lib.hid h
        subst he
        clear h HST
        go_wp2_with fail
        go_roundg (gk - 1)
        case measure => have:=HN.out; omega
        case rel => exact ⟨i + 1,by norm_cast,hlt,Lib.hid (by have:=HN.out; omega),HST1,HB6⟩
       ·have h:=HST.out
        rw [beq_eq_false_iff_ne.2 he,Bool.false_and] at h
        have HST1:=Lib.hid h
        clear h HST
        go_wp2_with fail
        go_ret
        exact ⟨by rw [HV.out,HST1.out]; rfl,zAd HB8.out HB6.out⟩
      ·obtain rfl : i = wl.length:=by omega
       have hv : R = 0:=by
        rw [HV.out,HO.out,List.drop_length,List.zip_nil_right]; rfl
       have HV:=Lib.hid hv
       clear hv
       go_wp2_with fail
       go_ret
       exact ⟨by rw [HV.out]; rfl,zAd HB8.out HB.out⟩
attribute [local go_sem] zAP zAQ max_two min_two zAK zAJ zAS zAR
def zBD.f (a0 : Bool) : Option (Int):=if a0 = true then (some 0) else (some 5)
theorem zBD.calls (a0 : Bool) (r : Int) (w : World) (h : zBD.f a0 = some r) :
  Calls Tryz.prog 84 #[.bool a0] w fun e w' => e = .returned (.int .i64 r) ∧ Drawn0 w w':=by
 have H : (if a0 = true then (some 0) else (some 5)) = some r:=h
 clear h
 by_cases c2 : a0 = true
 ·subst c2
  have H1 : (some 0) = some r:=by rw [if_pos rfl] at H; exact H
  clear H
  have H:=H1
  clear H1
  obtain rfl:=Option.some.inj H
  go_enter Tryz.func84,Tryz.ntmps84
  go_wp2
  go_ret
  exact ⟨by first | rfl | (simp; done) | (simp [*]; done),by repeat (first | exact Drawn0.refl _ | apply Drawn0.step)⟩
 ·replace c2:=Bool.eq_false_iff.mpr c2
  subst c2
  have H1 : (some 5) = some r:=by rw [if_neg (show ¬ (false = true) by decide)] at H; exact H
  clear H
  have H:=H1
  clear H1
  obtain rfl:=Option.some.inj H
  go_enter Tryz.func84,Tryz.ntmps84
  go_wp2
  go_ret
  exact ⟨by first | rfl | (simp; done) | (simp [*]; done),by repeat (first | exact Drawn0.refl _ | apply Drawn0.step)⟩
end Go.Proofs.YtkhlfdcjgooogaaGreat.P
