import Derived.Test.YtkhlfdcjgooogaaGreatWMore
import Derived.Test.YtkhlfdcjgooogaaGreatRrE
import Derived.Test.YtkhlfdcjgooogaaGreatRrG
import Derived.Test.YtkhlfdcjgooogaaGreatTyC
import Derived.BigQuiet
import Derived.Test.YtkhlfdcjgooogaaGreatTyT
import Derived.Test.YtkhlfdcjgooogaaGreatTyF
set_option maxRecDepth 100000
set_option maxHeartbeats 16000000
set_option linter.unusedVariables false
set_option linter.unusedSimpArgs false
namespace Go.Proofs.YtkhlfdcjgooogaaGreat.P
open Go.RowKit Go.Proofs.YtkhlfdcjgooogaaGreatW.PrintWords Go.Proofs.YtkhlfdcjgooogaaGreatW.PrintLast Go.Proofs.YtkhlfdcjgooogaaGreatW.PrintMore
theorem zCA {At : Option Addr} {ns : List S66} {w : World} (hC : Kd.C k66 w At ns.length ns) {q : Int} (h0 : 0 ≤ q) (h1 : q < ns.length) : ∃ ad,At = some ad ∧ w.cell? (ad.add (q.toNat * 5)) = some (.int .i64 (kdOf ns q)):=by
 obtain ⟨ad,A4,c4,eA,z0,z1,z2,z3,z4,l4,g4⟩:=at_T66 hC q h0 h1
 exact ⟨ad,eA,z0⟩
theorem rshaped_is (At : Option Addr) (ct : Nat) (ns : List S66) (root : Int) (hn : ns.length ≤ 4000) (hki : ∀ x ∈ ns,∀ k ∈ x.f4,0 ≤ k ∧ k < ns.length) (hsm : ∀ x ∈ ns,x.f4.length ≤ 1000 ∧ x.f3.size ≤ 1000000) (w : World) (hC : Kd.C k66 w At ns.length ns) (hct : ns.length ≤ ct) :
  Calls Tryz.prog 81 #[.agg #[.slice At ns.length ct,.int .i64 root]] w fun e w' => e = .returned (.bool (ns.all (okN ns))) ∧ Below w.heap.size w w':=by
 obtain ⟨W0,hW0⟩ : ∃ W0,W0 = w.alloc (.cells #[.slice At ns.length ct,.int .i64 root] 24):=⟨_,rfl⟩
 have HB0:=Lib.hid (box_ref At ct ns root w W0 hW0).1
 have X0:=Lib.hid (box_ref At ct ns root w W0 hW0).2
 have HW0:=Lib.hid hW0
 have HC:=Lib.hid hC
 have HKI:=Lib.hid hki
 have HSM:=Lib.hid hsm
 clear hW0 hC hki hsm
 go_enter Tryz.func81,Tryz.ntmps81
 go_wp2_with fail
 rw [← HW0.out]
 go_loopg [3] (ns.length + 1) (fun kq v3 W => ∃ i : Nat,v3 = .int .i64 i ∧ i ≤ ns.length ∧ Hid (i + kq = ns.length + 1) ∧ Hid (ns.all (okN ns) = (ns.drop i).all (okN ns)) ∧ Hid (Below w.heap.size w W) ∧ Hid (W.heap[w.heap.size]? = some (.cells #[.slice At ns.length ct,.int .i64 root] 24 (0,0))))
 case atStart => exact ⟨0,rfl,Nat.zero_le _,Lib.hid (by omega),Lib.hid (by rw [List.drop_zero]),HB0,X0⟩
 case round =>
  obtain ⟨i,rfl,hi,HN,HO,HB,X⟩:=hrel
  have c0:=bc_ X.out 0
  by_cases hlt : i < ns.length
  ·obtain ⟨ad,A4,c4,eA,z0,z1,z2,z3,z4,l4,g4⟩:=at_T66 HC.out (i : Int) (by omega) (by omega)
   rw [rdT24 ns i hlt] at z0 z1 z2 z3 z4 l4 g4
   rw [Int.toNat_natCast] at z0 z1 z2 z3 z4
   replace z0:=zAb HB.out z0
   replace z1:=zAb HB.out z1
   replace z2:=zAb HB.out z2
   replace z3:=zAb HB.out z3
   replace z4:=zAb HB.out z4
   have hst : (ns.drop i).all (okN ns) = (okN ns ns[i] && (ns.drop (i + 1)).all (okN ns)):=by rw [List.drop_eq_getElem_cons hlt,List.all_cons]
   have hkk:=HKI.out ns[i] (List.getElem_mem hlt)
   have hss:=HSM.out ns[i] (List.getElem_mem hlt)
   obtain ⟨x,hx⟩ : ∃ x,x = ns[i]:=⟨_,rfl⟩
   rw [← hx] at z0 z1 z2 z3 z4 l4 g4 hst hkk hss
   obtain ⟨k,n,at_,tx,kl⟩:=x
   dsimp only at z0 z1 z2 z3 z4 l4 g4 hst hkk hss
   have hok : okN ns ⟨k,n,at_,tx,kl⟩ = (decide (1 ≤ k) && (decide (k ≤ 27) && (textB k tx && (numB k n && kidsB k (kindsOf ns kl))))):=rfl
   rw [hok] at hst
   have HST:=Lib.hid (HO.out.trans hst)
   have HKK:=Lib.hid hkk
   have hkl1:=hss.1
   have hts:=hss.2
   obtain ⟨W1,hW1⟩ : ∃ W1,W1 = wr.alloc (.cells #[.int .i64 k,.int .i64 n,.int .i64 at_,.string tx,.slice A4 kl.length c4] 66):=⟨_,rfl⟩
   have hb1 : Below wr.heap.size wr W1:=by rw [hW1]; exact zAa (Below.refl _ _) _
   have HB1:=Lib.hid (zAd HB.out hb1)
   have X1:=Lib.hid (zAe X.out hb1)
   obtain ⟨gn,hgn⟩ : ∃ gn,gn = wr.heap.size:=⟨_,rfl⟩
   have N1 : Hid (W1.heap[gn]? = some (.cells #[.int .i64 k,.int .i64 n,.int .i64 at_,.string tx,.slice A4 kl.length c4] 66 (0,0))):=Lib.hid (by rw [hW1,hgn]; exact blk_new wr _)
   have HL1 : Hid (gn + 1 ≤ W1.heap.size):=Lib.hid (by rw [hW1,hgn]; simp)
   have HGT : Hid (w.heap.size < gn):=Lib.hid (by rw [hgn]; exact blk_lt X.out)
   have HGW : Hid (w.heap.size ≤ gn):=Lib.hid (by have:=HGT.out; omega)
   have HW1:=Lib.hid hW1
   have HGN:=Lib.hid hgn
   have i0 : ((i : Int) < (ns.length : Int)) = True:=eq_true (by omega)
   obtain ⟨go',hgo⟩ : ∃ g : Nat,g = gk:=⟨_,rfl⟩
   have HGO:=Lib.hid hgo
   have HCK:=Lib.hid (fun (W : World) (hb : Below w.heap.size w W) => Kd.C_below g4 hb)
   have HXI : Hid (ns[i] = ⟨k,n,at_,tx,kl⟩):=Lib.hid hx.symm
   cases eA
   clear hx hst hok hkk hss hb1 hW1 hgn hgo HO g4
   go_wp2_with fail
   rw [← HW1.out,← HGN.out]
   clear c0 z0 z1 z2 z3 z4
   go_loopg [5,6] (kl.length + 1) (fun kq v5 v6 W => ∃ j : Nat,v6 = .int .i64 j ∧ j ≤ kl.length ∧ Hid (j + kq = kl.length + 1) ∧ Hid (Kd.R (Kd.int .i64) 3 W (gn + 1) (fun _ => True) v5 (kindsOf ns (kl.take j))) ∧ Hid (Below w.heap.size w W) ∧ Hid (W.heap[w.heap.size]? = some (.cells #[.slice (some ad) ns.length ct,.int .i64 root] 24 (0,0))) ∧ Hid (W.heap[gn]? = some (.cells #[.int .i64 k,.int .i64 n,.int .i64 at_,.string tx,.slice A4 kl.length c4] 66 (0,0))) ∧ Hid (gn + 1 ≤ W.heap.size))
   case atStart => exact ⟨0,rfl,Nat.zero_le _,Lib.hid (by omega),Lib.hid (Kd.R_nil _ _ _ _ _),HB1,X1,N1,HL1⟩
   case round =>
    clear HB1 X1 N1 HL1 HB X HW1
    obtain ⟨j,rfl,hj,HN2,HR,HB,X,NB,HZ⟩:=hrel
    have c0:=bc_ X.out 0
    have n4:=bc_ NB.out 4
    by_cases hlj : j < kl.length
    ·obtain ⟨adK,eK,y0⟩:=kid_at (HCK.out wr HB.out) j hlj
     have hin:=HKK.out kl[j] (List.getElem_mem hlj)
     have hst : kindsOf ns (kl.take (j + 1)) = kindsOf ns (kl.take j) ++ [kdOf ns kl[j]]:=by unfold kindsOf; rw [List.take_succ_eq_append_getElem hlj,List.map_append]; rfl
     obtain ⟨kv,hkv⟩ : ∃ kv,kv = kl[j]:=⟨_,rfl⟩
     rw [← hkv] at y0 hin hst
     obtain ⟨ad2,eA2,x0⟩:=zCA (Kd.C_below HC.out HB.out) hin.1 hin.2
     cases eA2
     obtain ⟨kd,hkd⟩ : ∃ kd,kd = kdOf ns kv:=⟨_,rfl⟩
     rw [← hkd] at x0 hst
     have hl5 : (kindsOf ns (kl.take j)).length ≤ 1000:=by unfold kindsOf; rw [List.length_map,List.length_take]; omega
     obtain ⟨pl,hpl⟩ : ∃ pl,pl = kindsOf ns (kl.take j):=⟨_,rfl⟩
     rw [← hpl] at HR hst hl5
     have HST2:=Lib.hid hst
     have HL5:=Lib.hid hl5
     have YW:=Lib.hid (show w.cell? (adK.add j) = some (.int .i64 kv) by
      obtain ⟨adK',eK',y'⟩:=kid_at (HCK.out w (Below.refl _ _)) j hlj
      rw [eK] at eK'
      cases eK'
      rw [hkv]; exact y')
     have XW0:=Lib.hid (show w.cell? (ad.add (kv.toNat * 5)) = some (.int .i64 kd) by
      obtain ⟨ad',eA',z'⟩:=zCA HC.out hin.1 hin.2
      cases eA'
      rw [hkd]; exact z')
     have e0:=eq_true hin.1
     have e1:=eq_true hin.2
     cases eK
     clear hkv hst hkd hl5 hpl hin
     go_wp2_with fail
     refine start_ (n:=14) (S:=fun w' => w'.cell? ⟨w.heap.size,0,none⟩ = some (.slice (some ad) ns.length ct) ∧ w'.cell? ⟨gn,4,none⟩ = some (.slice (some adK) kl.length c4) ∧ w'.cell? (adK.add j) = some (.int .i64 kv) ∧ w'.cell? (ad.add (kv.toNat * 5)) = some (.int .i64 kd)) (ds:=[]) #[false,false,false,false,false,false,false,false,false,false,false,false,false,false] (by kernel_rfl) rfl rfl ⟨zAg c0,zAg n4,zAg y0,zAg x0⟩ (fun hHeld => ?_)
     refine pu_ 0 29 ?_
     refine pu_ 1 30 ?_
     refine pu_ 3 32 ?_
     refine pu_ 5 34 ?_
     refine ta_ 2 31 hHeld ?_
     refine ta_ 4 33 hHeld ?_
     refine pu_ 6 35 ?_
     refine ta_ 7 36 hHeld ?_
     refine pu_ 8 37 ?_
     refine pu_ 9 38 ?_
     refine ta_ 10 39 hHeld ?_
     refine on_ 11 (some 40) (fun K hK => ?_)
     refine value_ (w1:=(wr.drew).alloc (.cells #[.int .i64 kd] 3)) (v:=.slice (some ⟨wr.drew.heap.size,0,none⟩) 1 1) (by rfl) rfl ?_ ?_
     ·first | (go_simp; done) | (go_simp; rfl)
     refine hK.out _ _ ⟨zAb (zAa (zAk (Below.refl wr.heap.size wr)) _) c0,zAb (zAa (zAk (Below.refl wr.heap.size wr)) _) n4,zAb (zAa (zAk (Below.refl wr.heap.size wr)) _) y0,zAb (zAa (zAk (Below.refl wr.heap.size wr)) _) x0⟩ (fun hHeld => ?_)
     clear hK K
     refine no_ ?_
     refine on_ 12 (some 41) (fun K hK => ?_)
     refine Kd.zBT (Kd.int .i64) (w0:=wr.drew) (gn + 1) (by rfl) (.tmp 29) (.tmp 40) 64 3 (.int .i64 0) 8 (by rfl) Tryz.underlying64 info3 rfl (by decide) (by omega) u5 pl kd [.int .i64 kd] (fun _ => True) (fun _ => False) (by rfl) (by rfl) rfl (fun _ hk => hk.elim) (fun _ _ => trivial) (Kd.R_drew HR.out) (Below.refl _ _) HZ.out (by have:=HL5.out; omega) ?_
     intro v9 w9 ho_ hb_ hg_ hat_
     have HO9:=Lib.hid ho_
     have HB9:=Lib.hid hb_
     have NX : Hid (w9.heap[w.heap.size]? = some (.cells #[.slice (some ad) ns.length ct,.int .i64 root] 24 (0,0))):=Lib.hid ((HB9.out.block _ (by have:=HGW.out; omega)).trans (zAl X.out))
     have NN : Hid (w9.heap[gn]? = some (.cells #[.int .i64 k,.int .i64 n,.int .i64 at_,.string tx,.slice (some adK) kl.length c4] 66 (0,0))):=Lib.hid ((HB9.out.block _ (by omega)).trans (zAl NB.out))
     have NBL : Hid (Below w.heap.size w w9):=Lib.hid ((zAk HB.out).trans (HB9.out.mono (by have:=HGW.out; omega)))
     have NZ : Hid (gn + 1 ≤ w9.heap.size):=Lib.hid (Nat.le_trans HZ.out HB9.out.size)
     have g0:=bc_ NX.out 0
     have g1:=bc_ NN.out 4
     clear ho_ hb_ hg_ hat_
     refine hK.out _ _ ⟨g0,g1,zAb NBL.out YW.out,zAb NBL.out XW0.out⟩ (fun hHeld => ?_)
     clear hK K
     refine no_ ?_
     refine pu_ 13 5 ?_
     refine done_ (by kernel_rfl) ?_
     go_wp2_with fail
     go_roundg (gk - 1)
     case measure => have:=HN2.out; omega
     case rel => exact ⟨j + 1,by norm_cast,hlj,Lib.hid (by have:=HN2.out; omega),Lib.hid (by rw [HST2.out]; exact HO9.out),NBL,NX,NN,NZ⟩
    ·obtain rfl : j = kl.length:=by omega
     rw [List.take_length] at HR
     have hkl2 : (kindsOf ns kl).length ≤ 1000:=by unfold kindsOf; rw [List.length_map]; exact hkl1
     have hke : 1 ≤ k → k ≤ 27 → kidR k (kindsOf ns kl) = kidsB k (kindsOf ns kl):=kidR_eq k _ hkl2
     have hte : 1 ≤ k → k ≤ 27 → texR k tx = textB k tx:=texR_eq k tx
     obtain ⟨KL,hKL⟩ : ∃ KL,KL = kindsOf ns kl:=⟨_,rfl⟩
     rw [← hKL] at HR hkl2 hke HST
     obtain ⟨Ap,cp,hu5,hle_,hCp_⟩:=Kd.R_reads HR.out
     have HTX:=Lib.hid (rtexts_is k n at_ tx A4 kl.length c4 hts wr)
     have HNU:=Lib.hid (fun W => rnumbers_is k n at_ tx A4 kl.length c4 W)
     have HKD:=Lib.hid (fun (W : World) (hb : Below wr.heap.size wr W) => rkids_is k Ap cp KL hkl2 W (Kd.C_below hCp_ hb) hle_)
     obtain ⟨b1,hb1⟩ : ∃ b,b = texR k tx:=⟨_,rfl⟩
     obtain ⟨b2,hb2⟩ : ∃ b,b = numB k n:=⟨_,rfl⟩
     obtain ⟨b3,hb3⟩ : ∃ b,b = kidR k KL:=⟨_,rfl⟩
     rw [← hb1] at HTX hte
     rw [← hb2] at HNU HST
     rw [← hb3] at HKD hke
     have hres : ns.all (okN ns) = (decide (1 ≤ k) && (decide (k ≤ 27) && (b1 && (b2 && b3))) && (ns.drop (i + 1)).all (okN ns)):=by
      rw [HST.out]
      by_cases h1 : 1 ≤ k
      ·by_cases h2 : k ≤ 27
       ·rw [hte h1 h2,hke h1 h2]
       ·rw [decide_eq_false h2]; simp
      ·rw [decide_eq_false h1]; simp
     have HRES:=Lib.hid hres
     have n0:=bc_ NB.out 0
     have n1:=bc_ NB.out 1
     have n2:=bc_ NB.out 2
     have n3:=bc_ NB.out 3
     subst hu5
     clear hKL hb1 hb2 hb3 hres hte hke HST HR hCp_ hle_ hkl2 hkl1 hts
     go_wp2_with fail
     refine HTX.out.mono ?_
     rintro e_ W2 ⟨rfl,hb_⟩
     have HBB2:=Lib.hid hb_
     have N2:=Lib.hid (zAe NB.out hb_)
     clear hb_ n0 n1 n2 n3 n4 c0
     have n0:=bc_ N2.out 0
     have n1:=bc_ N2.out 1
     have n2:=bc_ N2.out 2
     have n3:=bc_ N2.out 3
     have n4:=bc_ N2.out 4
     go_wp2_with fail
     refine (HNU.out W2).mono ?_
     rintro e_ W3 ⟨rfl,hb_⟩
     have HBB3:=Lib.hid (zAd HBB2.out hb_)
     have N3:=Lib.hid (zAe N2.out hb_)
     clear hb_ n0 n1 n2 n3 n4
     have n0:=bc_ N3.out 0
     go_wp2_with fail
     refine (HKD.out W3 HBB3.out).mono ?_
     rintro e_ W4 ⟨rfl,hb_⟩
     have HBB4:=Lib.hid (zAd HBB3.out hb_)
     have N4:=Lib.hid (zAe N3.out hb_)
     have X4:=Lib.hid (zAe X.out HBB4.out)
     have HB4:=Lib.hid (zAd HB.out HBB4.out)
     clear hb_ n0
     have n0:=bc_ N4.out 0
     by_cases hgood : (1 ≤ k ∧ k ≤ 27) ∧ b1 = true ∧ b2 = true ∧ b3 = true
     ·obtain ⟨⟨k1,k2⟩,rfl,rfl,rfl⟩:=hgood
      have HR2 : Hid (ns.all (okN ns) = (ns.drop (i + 1)).all (okN ns)):=Lib.hid (by rw [HRES.out,decide_eq_true k1,decide_eq_true k2]; simp)
      have k3 : ¬ k < 1:=by omega
      have k4 : ¬ 27 < k:=by omega
      clear HRES
      go_wp2_with fail
      go_roundg (go' - 1)
      case measure => have:=HN.out; have:=HGO.out; omega
      case rel => exact ⟨i + 1,by norm_cast,hlt,Lib.hid (by have:=HN.out; have:=HGO.out; omega),HR2,HB4,X4⟩
     ·have HV : Hid (ns.all (okN ns) = false):=Lib.hid (by
       rw [HRES.out]
       by_cases k1 : 1 ≤ k
       ·by_cases k2 : k ≤ 27
        ·cases b1
         ·simp
         ·cases b2
          ·simp
          ·cases b3
           ·simp
           ·exact absurd ⟨⟨k1,k2⟩,rfl,rfl,rfl⟩ hgood
        ·rw [decide_eq_false k2]; simp
       ·rw [decide_eq_false k1]; simp)
      have hc5 : k < 1 ∨ 27 < k ∨ (¬ k < 1 ∧ ¬ 27 < k ∧ (b1 = false ∨ (b1 = true ∧ b2 = false) ∨ (b1 = true ∧ b2 = true ∧ b3 = false))):=by
       by_cases c1 : k < 1
       ·exact .inl c1
       ·by_cases c2 : 27 < k
        ·exact .inr (.inl c2)
        ·refine .inr (.inr ⟨c1,c2,?_⟩)
         cases b1
         ·exact .inl rfl
         ·cases b2
          ·exact .inr (.inl ⟨rfl,rfl⟩)
          ·cases b3
           ·exact .inr (.inr ⟨rfl,rfl,rfl⟩)
           ·exact absurd ⟨⟨by omega,by omega⟩,rfl,rfl,rfl⟩ hgood
      clear hgood HRES
      rcases hc5 with h | h | ⟨h,h2,hb⟩
      ·go_wp2_with fail
       go_ret
       exact ⟨by rw [HV.out]; rfl,HB4.out⟩
      ·have h2 : ¬ k < 1:=by omega
       go_wp2_with fail
       go_ret
       exact ⟨by rw [HV.out]; rfl,HB4.out⟩
      ·rcases hb with rfl | ⟨rfl,rfl⟩ | ⟨rfl,rfl,rfl⟩ <;> (
        go_wp2_with fail
        go_ret
        exact ⟨by rw [HV.out]; rfl,HB4.out⟩)
  ·obtain rfl : i = ns.length:=by omega
   have ho:=HO.out
   rw [List.drop_length] at ho
   have HV:=Lib.hid ho
   clear ho HO
   go_wp2_with fail
   go_ret
   exact ⟨by rw [HV.out]; rfl,HB.out⟩
set_option linter.unusedSectionVars false
theorem roots_inc : ∀ (ts : List RT) (o : Nat),(RT.roots o ts).Pairwise (· < ·)
 | [],o => List.Pairwise.nil
 | t :: ts,o => by
  unfold RT.roots
  refine List.Pairwise.cons (fun k hk => ?_) (roots_inc ts _)
  have:=zCe ts (o + t.size) k hk
  have:=RT.size_pos t
  omega
theorem zCz {ns : List S66} {root : Int} {ol : List Int} (hR : Rt ns root ol) (i : Int) (h0 : 0 ≤ i) (h1 : i < ns.length) : (rd_T66 ns i).f4.Pairwise (· < ·):=by
 rcases zBo ns root with h | ⟨T,rfl,hT,hr⟩
 ·rw [hR.right.1] at h; cases h
 ·obtain ⟨j,rfl⟩:=Int.eq_ofNat_of_zero_le h0
  rw [RT.flat_len] at h1
  obtain ⟨x,ks,o,e,_⟩:=node_at T j (by omega)
  rw [e]
  exact roots_inc ks o
theorem seg1 {p : Int → Bool} {m : Nat} {L : List Int} (h : fin L (0 + rn p m L 0) = true) (j : Nat) (hj : j < L.length) : p L[j] = true:=by
 have:=fin_eq h
 exact (rn_all p m L 0 j (Nat.zero_le _) (by omega)).2
theorem seg2 {p q : Int → Bool} {m m' : Nat} {L : List Int} (h : fin L (0 + rn p m L 0 + rn q m' L (0 + rn p m L 0)) = true) (j : Nat) (hj : j < L.length) : p L[j] = true ∨ q L[j] = true:=by
 have:=fin_eq h
 by_cases c : j < 0 + rn p m L 0
 ·exact .inl (rn_all p m L 0 j (Nat.zero_le _) c).2
 ·exact .inr (rn_all q m' L _ j (Nat.not_lt.1 c) (by omega)).2
theorem seg3 {p q r : Int → Bool} {m m' m'' : Nat} {L : List Int} (h : fin L (0 + rn p m L 0 + rn q m' L (0 + rn p m L 0) + rn r m'' L (0 + rn p m L 0 + rn q m' L (0 + rn p m L 0))) = true) (j : Nat) (hj : j < L.length) : p L[j] = true ∨ q L[j] = true ∨ r L[j] = true:=by
 have:=fin_eq h
 by_cases c : j < 0 + rn p m L 0
 ·exact .inl (rn_all p m L 0 j (Nat.zero_le _) c).2
 ·by_cases c2 : j < 0 + rn p m L 0 + rn q m' L (0 + rn p m L 0)
  ·exact .inr (.inl (rn_all q m' L _ j (Nat.not_lt.1 c) c2).2)
  ·exact .inr (.inr (rn_all r m'' L _ j (Nat.not_lt.1 c2) (by omega)).2)
def okK (k c : Int) : Prop:=(c = 2 ∨ c = 3 → k = 1) ∧ (c = 4 ∨ c = 5 → k = 3) ∧ c ≠ 1
theorem okK_of {k c : Int} (h : c = 6 ∨ 7 ≤ c) : okK k c:=⟨fun h2 => by omega,fun h2 => by omega,by omega⟩
theorem ex_ge {c : Int} (h : exB c = true) : 7 ≤ c:=by unfold exB at h; simp only [Bool.and_eq_true,decide_eq_true_eq] at h; omega
theorem st_ge {c : Int} (h : stB c = true) : 7 ≤ c:=by unfold stB at h; simp only [Bool.and_eq_true,decide_eq_true_eq] at h; omega
theorem eq_of {c d : Int} (h : (c == d) = true) : c = d:=by simpa using h
theorem kind_kids {k : Int} {L : List Int} (h1 : 1 ≤ k) (h2 : k ≤ 27) (h : kidsB k L = true) (j : Nat) (hj : j < L.length) : okK k L[j]:=by
 have hk : k = 1 ∨ k = 2 ∨ k = 3 ∨ k = 4 ∨ k = 5 ∨ k = 6 ∨ k = 7 ∨ k = 8 ∨ k = 9 ∨ k = 10 ∨ k = 11 ∨ k = 12 ∨ k = 13 ∨ k = 14 ∨ k = 15 ∨ k = 16 ∨ k = 17 ∨ k = 18 ∨ k = 19 ∨ k = 20 ∨ k = 21 ∨ k = 22 ∨ k = 23 ∨ k = 24 ∨ k = 25 ∨ k = 26 ∨ k = 27:=by omega
 rcases hk with rfl | rfl | rfl | rfl | rfl | rfl | rfl | rfl | rfl | rfl | rfl | rfl | rfl | rfl | rfl | rfl | rfl | rfl | rfl | rfl | rfl | rfl | rfl | rfl | rfl | rfl | rfl
 ·have h : kidsB_1 L = true:=h
  unfold kidsB_1 at h
  rcases seg2 h j hj with h | h
  ·have:=eq_of h; exact ⟨fun _ => rfl,fun h2 => by omega,by omega⟩
  ·have:=eq_of h; exact ⟨fun _ => rfl,fun h2 => by omega,by omega⟩
 ·have h : fin L 0 = true:=h
  have:=fin_eq h; omega
 ·have h : kidsB_3 L = true:=h
  unfold kidsB_3 at h
  rw [Bool.and_eq_true] at h
  rcases seg3 h.2 j hj with h | h | h
  ·have:=eq_of h; exact ⟨fun h2 => by omega,fun _ => rfl,by omega⟩
  ·have:=eq_of h; exact ⟨fun h2 => by omega,fun _ => rfl,by omega⟩
  ·have:=eq_of h; exact ⟨fun h2 => by omega,fun _ => rfl,by omega⟩
 ·have h : fin L 0 = true:=h
  have:=fin_eq h; omega
 ·have h : fin L 0 = true:=h
  have:=fin_eq h; omega
 ·have h : kidsB_6 L = true:=h
  unfold kidsB_6 at h
  exact okK_of (.inr (st_ge (seg1 h j hj)))
 ·have h : kidsB_7 L = true:=h
  unfold kidsB_7 at h
  rw [Bool.and_eq_true] at h
  exact okK_of (.inr (ex_ge (seg1 h.2 j hj)))
 ·have h : kidsB_8 L = true:=h
  unfold kidsB_8 at h
  rw [Bool.and_eq_true] at h
  exact okK_of (.inr (ex_ge (seg1 h.2 j hj)))
 ·have h : kidsB_9 L = true:=h
  unfold kidsB_9 at h
  rw [Bool.and_eq_true] at h
  have:=eq_of (seg1 h.2 j hj)
  exact okK_of (by omega)
 ·have h : zBh L = true:=h
  unfold zBh at h
  simp only [Bool.and_eq_true] at h
  rcases seg2 h.2 j hj with h | h
  ·have:=eq_of h; exact okK_of (by omega)
  ·exact okK_of (.inr (ex_ge h))
 ·have h : zBj L = true:=h
  unfold zBj at h
  simp only [Bool.and_eq_true] at h
  rcases seg2 h.2 j hj with h | h
  ·exact okK_of (.inr (ex_ge h))
  ·have:=eq_of h; exact okK_of (by omega)
 ·have h : zBs L = true:=h
  unfold zBs at h
  simp only [Bool.and_eq_true] at h
  rcases seg2 h.2 j hj with h | h
  ·exact okK_of (.inr (ex_ge h))
  ·have:=eq_of h; exact okK_of (by omega)
 ·have h : zBr L = true:=h
  unfold zBr at h
  simp only [Bool.and_eq_true] at h
  rcases seg2 h.2 j hj with h | h
  ·have:=eq_of h; exact okK_of (by omega)
  ·exact okK_of (.inr (ex_ge h))
 ·have h : zBz L = true:=h
  unfold zBz at h
  exact okK_of (.inr (ex_ge (seg1 h j hj)))
 ·have h : zCP L = true:=h
  unfold zCP at h
  rw [Bool.and_eq_true] at h
  exact okK_of (.inr (ex_ge (seg1 h.2 j hj)))
 ·have h : zBI L = true:=h
  unfold zBI at h
  rw [Bool.and_eq_true] at h
  have:=eq_of (seg1 h.2 j hj)
  exact okK_of (by omega)
 ·have h : zCX L = true:=h
  unfold zCX at h
  rw [Bool.and_eq_true] at h
  exact okK_of (.inr (ex_ge (seg1 h.2 j hj)))
 ·have h : fin L 0 = true:=h
  have:=fin_eq h; omega
 ·have h : fin L 0 = true:=h
  have:=fin_eq h; omega
 ·have h : fin L 0 = true:=h
  have:=fin_eq h; omega
 ·have h : fin L 0 = true:=h
  have:=fin_eq h; omega
 ·have h : fin L 0 = true:=h
  have:=fin_eq h; omega
 ·have h : zCO L = true:=h
  unfold zCO at h
  rw [Bool.and_eq_true] at h
  exact okK_of (.inr (ex_ge (seg1 h.2 j hj)))
 ·have h : fin L 0 = true:=h
  have:=fin_eq h; omega
 ·have h : fin L 0 = true:=h
  have:=fin_eq h; omega
 ·have h : zCR L = true:=h
  unfold zCR at h
  rw [Bool.and_eq_true] at h
  exact okK_of (.inr (ex_ge (seg1 h.2 j hj)))
 ·have h : zCU L = true:=h
  unfold zCU at h
  rw [Bool.and_eq_true] at h
  exact okK_of (.inr (ex_ge (seg1 h.2 j hj)))
theorem zDs {ns : List S66} {root : Int} {ol : List Int} (hR : Rt ns root ol) (i : Int) (h0 : 0 ≤ i) (h1 : i < ns.length) (k : Int) (hk : k ∈ (rd_T66 ns i).f4) : okK (kdOf ns i) (kdOf ns k):=by
 have h:=hR.ok.at_ h0 h1
 obtain ⟨j,hj,rfl⟩:=List.mem_iff_getElem.1 hk
 rw [← zCc ns _ j hj]
 exact kind_kids h.1 h.2.1 h.2.2.2.2 j (by rw [zBg]; exact hj)
def Kid (ns : List S66) (k : Int) (i : Nat) : Prop:=∃ h : i < ns.length,k ∈ ns[i].f4
mutual
theorem tree_kids (ns : List S66) : ∀ (t : RT) (o : Nat),AtT ns o t → (∀ i,o ≤ i → i < o + t.size → ∀ k,Kid ns k i → (o : Int) ≤ k ∧ k < (o : Int) + t.size - 1) ∧ (∀ i j,o ≤ i → i < o + t.size → o ≤ j → j < o + t.size → ∀ k,Kid ns k i → Kid ns k j → i = j)
 | .node x ks,o,h => by
  obtain ⟨hF,hl,hx⟩:=h.kids
  obtain ⟨f1,f2⟩:=fors_kids ns ks o hF (by omega)
  have hroot : ∀ k,Kid ns k (o + RT.sizes ks) → k ∈ RT.roots o ks:=fun k ⟨_,hk⟩ => by rw [hx] at hk; exact hk
  have hsz : (RT.node x ks).size = RT.sizes ks + 1:=by rw [RT.size]
  rw [hsz]
  refine ⟨fun i h0 h1 k hk => ?_,fun i j h0 h1 h2 h3 k hi hj => ?_⟩
  ·by_cases c : i < o + RT.sizes ks
   ·have:=f1 i h0 c k hk; omega
   ·have e : i = o + RT.sizes ks:=by omega
    subst e
    have:=zCe ks o k (hroot k hk); omega
  ·by_cases c : i < o + RT.sizes ks
   ·by_cases d : j < o + RT.sizes ks
    ·exact f2 i j h0 c h2 d k hi hj
    ·have e : j = o + RT.sizes ks:=by omega
     subst e
     exact absurd (hroot k hj) (f1 i h0 c k hi).2.2
   ·have e : i = o + RT.sizes ks:=by omega
    by_cases d : j < o + RT.sizes ks
    ·subst e
     exact absurd (hroot k hi) (f1 j h2 d k hj).2.2
    ·omega
theorem fors_kids (ns : List S66) : ∀ (ts : List RT) (o : Nat),AtF ns o ts → o ≤ ns.length → (∀ i,o ≤ i → i < o + RT.sizes ts → ∀ k,Kid ns k i → (o : Int) ≤ k ∧ k < (o : Int) + RT.sizes ts ∧ k ∉ RT.roots o ts) ∧ (∀ i j,o ≤ i → i < o + RT.sizes ts → o ≤ j → j < o + RT.sizes ts → ∀ k,Kid ns k i → Kid ns k j → i = j)
 | [],o,h,ho => ⟨fun i h0 h1 => by rw [RT.sizes] at h1; omega,fun i j h0 h1 => by rw [RT.sizes] at h1; omega⟩
 | t :: ts,o,h,ho => by
  obtain ⟨ht,hts⟩:=h.head ho
  have hp:=RT.size_pos t
  obtain ⟨a1,a2⟩:=tree_kids ns t o ht
  obtain ⟨b1,b2⟩:=fors_kids ns ts (o + t.size) hts ht.le
  rw [RT.sizes,RT.roots]
  refine ⟨fun i h0 h1 k hk => ?_,fun i j h0 h1 h2 h3 k hi hj => ?_⟩
  ·by_cases c : i < o + t.size
   ·have:=a1 i h0 c k hk
    refine ⟨this.1,by omega,fun hm => ?_⟩
    rcases List.mem_cons.1 hm with e | hm
    ·omega
    ·have:=zCe ts _ k hm; omega
   ·have:=b1 i (by omega) (by omega) k hk
    refine ⟨by omega,by omega,fun hm => ?_⟩
    rcases List.mem_cons.1 hm with e | hm
    ·omega
    ·exact this.2.2 hm
  ·by_cases c : i < o + t.size
   ·have hi1:=a1 i h0 c k hi
    by_cases d : j < o + t.size
    ·exact a2 i j h0 c h2 d k hi hj
    ·have:=b1 j (by omega) (by omega) k hj; omega
   ·have hi1:=b1 i (by omega) (by omega) k hi
    by_cases d : j < o + t.size
    ·have:=a1 j h2 d k hj; omega
    ·exact b2 i j (by omega) (by omega) (by omega) (by omega) k hi hj
end
theorem kid_uniq {ns : List S66} {root : Int} {ol : List Int} (hR : Rt ns root ol) (i j k : Int) (h0 : 0 ≤ i) (h1 : i < ns.length) (h2 : 0 ≤ j) (h3 : j < ns.length) (hi : k ∈ (rd_T66 ns i).f4) (hj : k ∈ (rd_T66 ns j).f4) : i = j:=by
 rcases zBo ns root with h | ⟨T,rfl,hT,hr⟩
 ·rw [hR.right.1] at h; cases h
 ·obtain ⟨i,rfl⟩:=Int.eq_ofNat_of_zero_le h0
  obtain ⟨j,rfl⟩:=Int.eq_ofNat_of_zero_le h2
  have hat : AtT (RT.flat 0 T) 0 T:=by unfold AtT; rw [List.drop_zero,← RT.flat_len 0 T,List.take_length]
  have hl:=RT.flat_len 0 T
  have hi' : i < (RT.flat 0 T).length:=by omega
  have hj' : j < (RT.flat 0 T).length:=by omega
  rw [rdT24 _ i hi'] at hi
  rw [rdT24 _ j hj'] at hj
  have:=(tree_kids _ T 0 hat).2 i j (Nat.zero_le _) (by omega) (Nat.zero_le _) (by omega) k ⟨hi',hi⟩ ⟨hj',hj⟩
  omega
theorem own_kid {ns : List S66} {root : Int} {ol : List Int} (hR : Rt ns root ol) (i k : Int) (h0 : 0 ≤ i) (h1 : i < ns.length) (hk : k ∈ (rd_T66 ns i).f4) (h3 : kdOf ns k ≠ 3) : rd ol k = rd ol i:=by
 obtain ⟨kf,ps,_,hP,hO⟩:=hR.par
 have hin:=(hR.fit.2 _ (zAA ns i h0 h1)).1 k hk
 have hlt : k < i:=by
  obtain ⟨i,rfl⟩:=Int.eq_ofNat_of_zero_le h0
  have hi' : i < ns.length:=by omega
  rw [rdT24 _ i hi'] at hk
  exact (hP.dn i hi' k hk).2
 have hk1 : k ≠ root:=by rw [hR.rt]; omega
 rw [hO.2 k hin.1 hin.2,if_neg h3,if_neg hk1]
 obtain ⟨j,rfl⟩:=Int.eq_ofNat_of_zero_le hin.1
 obtain ⟨i',⟨hi',hm⟩,e⟩:=hP.up j (by omega)
 rw [e]
 have:=kid_uniq hR (i' : Int) i j (by omega) (by omega) h0 h1 (by rw [rdT24 _ i' hi']; exact hm) hk
 rw [this]
theorem kid_ex {ns : List S66} {root : Int} {ol : List Int} (hR : Rt ns root ol) (k : Int) (h0 : 0 ≤ k) (h1 : k < (ns.length : Int) - 1) : ∃ i : Int,0 ≤ i ∧ i < ns.length ∧ k ∈ (rd_T66 ns i).f4:=by
 obtain ⟨kf,ps,_,hP,hO⟩:=hR.par
 obtain ⟨j,rfl⟩:=Int.eq_ofNat_of_zero_le h0
 obtain ⟨i',⟨hi',hm⟩,e⟩:=hP.up j (by omega)
 exact ⟨i',by omega,by omega,by rw [rdT24 _ i' hi']; exact hm⟩
theorem zCy {ns : List S66} {root : Int} {ol : List Int} (hR : Rt ns root ol) (k : Int) (h0 : 0 ≤ k) (h1 : k < ns.length) (hk : kdOf ns k = 2 ∨ kdOf ns k = 3) : k ∈ (rd_T66 ns root).f4:=by
 have hone:=hR.one
 have hne : k ≠ root:=fun e => by rw [e,hone] at hk; omega
 have hrt:=hR.rt
 obtain ⟨i,i0,i1,hm⟩:=kid_ex hR k h0 (by omega)
 have h:=(zDs hR i i0 i1 k hm).1 hk
 by_cases e : i = root
 ·rw [← e]; exact hm
 ·obtain ⟨i2,j0,j1,hm2⟩:=kid_ex hR i i0 (by omega)
  exact absurd h (zDs hR i2 j0 j1 i hm2).2.2
theorem own_kids {ns : List S66} {root : Int} {ol : List Int} (hR : Rt ns root ol) (k : Int) (h0 : 0 ≤ k) (h1 : k < ns.length) (hk : kdOf ns k = 4 ∨ kdOf ns k = 5) (o : Int) (o0 : 0 ≤ o) (o1 : o < ns.length) (ho : kdOf ns o = 3) : rd ol k = o ↔ k ∈ (rd_T66 ns o).f4:=by
 have hone:=hR.one
 have hrt:=hR.rt
 have hne : k ≠ root:=fun e => by rw [e,hone] at hk; omega
 have hself : ∀ i : Int,0 ≤ i → i < ns.length → kdOf ns i = 3 → rd ol i = i:=fun i i0 i1 h3 => by
  obtain ⟨kf,ps,_,hP,hO⟩:=hR.par
  rw [hO.2 i i0 i1,if_pos h3]
 refine ⟨fun h => ?_,fun h => ?_⟩
 ·obtain ⟨i,i0,i1,hm⟩:=kid_ex hR k h0 (by omega)
  have h3:=(zDs hR i i0 i1 k hm).2.1 hk
  have:=own_kid hR i k i0 i1 hm (by omega)
  rw [hself i i0 i1 h3,h] at this
  rw [this]; exact hm
 ·rw [own_kid hR o k o0 o1 h (by omega),hself o o0 o1 ho]
end Go.Proofs.YtkhlfdcjgooogaaGreat.P
