import Derived.Test.YtkhlfdcjgooogaaGreatWMore
import Derived.Test.YtkhlfdcjgooogaaGreatRrC
import Derived.Test.YtkhlfdcjgooogaaGreatPf103
set_option maxRecDepth 100000
set_option maxHeartbeats 16000000
set_option linter.unusedVariables false
set_option linter.unusedSimpArgs false
set_option linter.unusedSectionVars false
namespace Go.Proofs.YtkhlfdcjgooogaaGreat.P
open Go.RowKit Go.Proofs.YtkhlfdcjgooogaaGreatW.PrintWords Go.Proofs.YtkhlfdcjgooogaaGreatW.PrintLast Go.Proofs.YtkhlfdcjgooogaaGreatW.PrintMore
def dpt (ns : List S66) (j : Int) : Int:=(zAp.deep 1000000 ns j).getD 0
theorem dpt_at {ns : List S66} (hn : ns.length < 1000000) {t : RT} {o : Nat} (h : AtT ns o t) : dpt ns ((o : Int) + t.size - 1) = (t.depth : Int):=by
 have:=h.le
 have:=zBU t
 unfold dpt
 rw [deep_at ns hn t o 1000000 h (by omega)]
 rfl
def mxs (D : Int → Int) : Int → List Int → Int
 | c,[] => c
 | c,k :: ks => mxs D (mx c (1 + D k)) ks
theorem mxs_roots (ns : List S66) (hn : ns.length < 1000000) : ∀ (ks : List RT) (o : Nat),AtF ns o ks → o ≤ ns.length → ∀ c : Nat,1 ≤ c → mxs (dpt ns) (c : Int) (RT.roots o ks) = ((max c (RT.depths ks + 1) : Nat) : Int)
 | [],o,h,ho,c,hc => by
  rw [RT.roots,mxs,RT.depths]
  omega
 | t :: ts,o,h,ho,c,hc => by
  obtain ⟨h1,h2⟩:=h.head ho
  rw [RT.roots,mxs,dpt_at hn h1,show (1 : Int) + (t.depth : Int) = ((t.depth + 1 : Nat) : Int) from by omega,mx_max,mxs_roots ns hn ts (o + t.size) h2 h1.le _ (by omega),RT.depths]
  omega
theorem mxs_snoc (D : Int → Int) : ∀ (ks : List Int) (a k : Int),mxs D a (ks ++ [k]) = mx (mxs D a ks) (1 + D k)
 | [],a,k => rfl
 | x :: ks,a,k => by rw [List.cons_append,mxs,mxs_snoc D ks,mxs]
theorem dpt_node (T : RT) (hT : T.size ≤ 4000) (i : Nat) (hi : i < (RT.flat 0 T).length) : mxs (dpt (RT.flat 0 T)) 1 (RT.flat 0 T)[i].f4 = dpt (RT.flat 0 T) (i : Int) ∧ 0 ≤ dpt (RT.flat 0 T) (i : Int) ∧ dpt (RT.flat 0 T) (i : Int) ≤ 4000:=by
 have hfl:=RT.flat_len 0 T
 obtain ⟨t,o,hat,hsz⟩:=tree_at T i (by omega)
 cases t with
 | node x ks =>
  have h4:=zBU (.node x ks)
  have h5:=dpt_at (by omega) hat
  have h6:=zCl hat
  have hle:=hat.le
  have h7:=mxs_roots (RT.flat 0 T) (by omega) ks o hat.kids.1 (by omega) 1 (Nat.le_refl _)
  rw [show ((o : Int) + ((RT.node x ks).size : Int) - 1) = (i : Int) from by omega] at h5 h6
  rw [rdT24 _ i hi] at h6
  rw [h5,h6]
  dsimp only
  refine ⟨?_,by omega,by omega⟩
  rw [show (1 : Int) = ((1 : Nat) : Int) from rfl,h7,RT.depth]
  omega
theorem rdepth_is (At : Option Addr) (ct : Nat) (T : RT) (hT : T.size ≤ 4000) (ns : List S66) (hns : ns = RT.flat 0 T) (root : Int) (hG : SndG ns root) (hkl : ∀ x ∈ ns,x.f4.length ≤ 4000) (w : World) (hC : Kd.C k66 w At ns.length ns) (hct : ns.length ≤ ct) :
  Calls Tryz.prog 80 #[.agg #[.slice At ns.length ct,.int .i64 root]] w fun e w' => e = .returned (.int .i64 (T.depth : Int)) ∧ Below w.heap.size w w':=by
 have hn:=hG.n4
 have hn1:=hG.n1
 obtain ⟨W0,hW0⟩ : ∃ W0,W0 = w.alloc (.cells #[.slice At ns.length ct,.int .i64 root] 24):=⟨_,rfl⟩
 have HB0:=Lib.hid (box_ref At ct ns root w W0 hW0).1
 have X0:=Lib.hid (box_ref At ct ns root w W0 hW0).2
 have HX:=Lib.hid (zCw At ct ns root hn hkl W0 (Kd.C_below hC HB0.out) hct true ⟨fun _ => hG,fun _ => rfl⟩)
 have HW0:=Lib.hid hW0
 have HC:=Lib.hid hC
 have HKL:=Lib.hid hkl
 have HRG:=Lib.hid hG.rg
 have hrt:=hG.rt
 have HDN:=Lib.hid (hns ▸ dpt_node T hT : ∀ i (hi : i < ns.length),mxs (dpt ns) 1 ns[i].f4 = dpt ns (i : Int) ∧ 0 ≤ dpt ns (i : Int) ∧ dpt ns (i : Int) ≤ 4000)
 have HTD : Hid ((T.depth : Int) = dpt ns root):=Lib.hid (by
  have hat : AtT (RT.flat 0 T) 0 T:=by unfold AtT; rw [List.drop_zero,← RT.flat_len 0 T,List.take_length]
  have h1:=dpt_at (by rw [RT.flat_len]; omega) hat
  rw [← h1,hrt,hns,RT.flat_len]
  congr 1
  omega)
 obtain ⟨td,htd⟩ : ∃ td,td = (T.depth : Int):=⟨_,rfl⟩
 obtain ⟨D,hD⟩ : ∃ D,D = dpt ns:=⟨_,rfl⟩
 rw [← htd] at HTD ⊢
 rw [← hD] at HTD HDN
 have hr0 : (0 ≤ root) = True:=eq_true (by omega)
 have hr1 : (root < (ns.length : Int)) = True:=eq_true (by omega)
 have hmk:=zBY ns.length hn
 have HR:=Lib.hid hrt
 clear hW0 hC hkl hG hrt htd hD hns
 go_enter Tryz.func80,Tryz.ntmps80
 go_wp2_with fail
 rw [← HW0.out]
 refine HX.out.mono ?_
 rintro e_ W1 ⟨rfl,hb_⟩
 have HB1:=Lib.hid (zAd HB0.out hb_)
 have X1:=Lib.hid (zAe X0.out hb_)
 clear hb_
 have c0:=bc_ X1.out 0
 obtain ⟨W2,hW2⟩ : ∃ W2,W2 = W1.alloc (.cells (intCells (List.replicate ns.length 0)) 3):=⟨_,rfl⟩
 have hgw : w.heap.size ≤ W1.heap.size:=HB1.out.size
 have O2 : Hid (W2.heap[W1.heap.size]? = some (.cells (intCells (List.replicate ns.length (0 : Int))) 3 (0,0))):=Lib.hid (by rw [hW2]; exact blk_new W1 _)
 have hlt:=blk_lt X1.out
 have X2 : Hid (W2.heap[w.heap.size]? = some (.cells #[.slice At ns.length ct,.int .i64 root] 24 (0,0))):=Lib.hid (by rw [hW2]; exact zAj X1.out _)
 have HB2 : Hid (Below w.heap.size w W2):=Lib.hid (by rw [hW2]; exact zAa HB1.out _)
 have HW2:=Lib.hid hW2
 obtain ⟨g,hg⟩ : ∃ g,g = W1.heap.size:=⟨_,rfl⟩
 have HGG:=Lib.hid hg
 rw [← hg] at hgw hlt O2
 have HL2 : Hid ((List.replicate ns.length (0 : Int)).length = ns.length):=Lib.hid (by simp)
 have HGW:=Lib.hid hgw
 have HLT:=Lib.hid hlt
 have HR0:=Lib.hid (of_eq_true hr0)
 have HR1:=Lib.hid (of_eq_true hr1)
 clear hW2 hg hgw hlt
 go_wp2_with fail
 rw [← HW2.out,← HGG.out]
 clear c0 hr0 hr1
 go_loopg [5] (ns.length + 1) (fun kq v5 W => ∃ (i : Nat) (l : List Int),v5 = .int .i64 i ∧ i ≤ ns.length ∧ Hid (i + kq = ns.length + 1) ∧ Hid (l.length = ns.length) ∧ Hid (∀ j : Nat,j < i → rd l (j : Int) = D (j : Int)) ∧ Hid (Below w.heap.size w W) ∧ Hid (W.heap[w.heap.size]? = some (.cells #[.slice At ns.length ct,.int .i64 root] 24 (0,0))) ∧ Hid (W.heap[g]? = some (.cells (intCells l) 3 (0,0))))
 case atStart => exact ⟨0,_,rfl,Nat.zero_le _,Lib.hid (by omega),HL2,Lib.hid (fun _ h => absurd h (Nat.not_lt_zero _)),HB2,X2,O2⟩
 case round =>
  obtain ⟨i,l,rfl,hi,HN,HL,HQ,HB,X,O⟩:=hrel
  by_cases hlt : i < ns.length
  ·obtain ⟨ad,A4,c4,eA,z0,z1,z2,z3,z4,l4,g4⟩:=at_T66 (Kd.C_below HC.out HB.out) (i : Int) (by omega) (by omega)
   rw [rdT24 ns i hlt] at z4 l4 g4
   have hk4:=HKL.out ns[i] (List.getElem_mem hlt)
   have hrg:=HRG.out i hlt
   have hdn:=HDN.out i hlt
   obtain ⟨kl,hkl⟩ : ∃ kl,kl = ns[i].f4:=⟨_,rfl⟩
   rw [← hkl] at z4 l4 g4 hk4 hrg hdn
   have HRG2:=Lib.hid hrg
   have HKE:=Lib.hid hkl
   have HDI:=Lib.hid hdn
   have i0 : ((i : Int) < (ns.length : Int)) = True:=eq_true (by omega)
   obtain ⟨go',hgo⟩ : ∃ g : Nat,g = gk:=⟨_,rfl⟩
   have HGO:=Lib.hid hgo
   have hl:=HL.out
   have c0:=bc_ X.out 0
   have d0 : wr.cell? ⟨g,i,none⟩ = some (.int .i64 (rd l (i : Int))):=(zAh O.out i).trans (by have:=zAO l (i : Int) (by omega) (by omega); rwa [Int.toNat_natCast] at this)
   have f0:=zAc O.out i
   obtain ⟨W3,hW3⟩ : ∃ W3,W3 = wr.setCell ⟨g,i,none⟩ (.int .i64 1):=⟨_,rfl⟩
   have O3 : Hid (W3.heap[g]? = some (.cells (intCells (l.set i 1)) 3 (0,0))):=Lib.hid (by rw [hW3]; exact blk_put O.out _ _ (by simpa using zBv l (i : Int) 1))
   have X3 : Hid (W3.heap[w.heap.size]? = some (.cells #[.slice At ns.length ct,.int .i64 root] 24 (0,0))):=Lib.hid (by rw [hW3]; exact blk_far X.out (by have:=HLT.out; show w.heap.size ≠ g; omega) _)
   have HB3 : Hid (Below w.heap.size w W3):=Lib.hid (by rw [hW3]; exact HB.out.setCell HGW.out _)
   have HL3 : Hid ((l.set i 1).length = ns.length):=Lib.hid (by rw [List.length_set]; exact hl)
   have HQ3 : Hid (∀ j : Nat,j < i → rd (l.set i 1) (j : Int) = D (j : Int)):=Lib.hid (fun j hj => by rw [rd_set _ _ _ _ (by omega),if_neg (by omega)]; exact HQ.out j hj)
   have HM3 : Hid (rd (l.set i 1) (i : Int) = mxs D 1 (kl.take 0)):=Lib.hid (by rw [rd_set _ _ _ _ (by omega),if_pos rfl,List.take_zero,mxs])
   have HW3:=Lib.hid hW3
   cases eA
   clear hkl z0 z1 z2 z3 g4 hgo hrg z4 hdn hl hW3
   go_wp2_with fail
   clear c0 d0 f0
   rw [← HW3.out]
   go_loopg [6] (kl.length + 1) (fun kq v6 W => ∃ (j : Nat) (l : List Int),v6 = .int .i64 j ∧ j ≤ kl.length ∧ Hid (j + kq = kl.length + 1) ∧ Hid (l.length = ns.length) ∧ Hid (∀ j : Nat,j < i → rd l (j : Int) = D (j : Int)) ∧ Hid (rd l (i : Int) = mxs D 1 (kl.take j)) ∧ Hid (Below w.heap.size w W) ∧ Hid (W.heap[w.heap.size]? = some (.cells #[.slice (some ad) ns.length ct,.int .i64 root] 24 (0,0))) ∧ Hid (W.heap[g]? = some (.cells (intCells l) 3 (0,0))))
   case atStart => exact ⟨0,_,rfl,Nat.zero_le _,Lib.hid (by omega),HL3,HQ3,HM3,HB3,X3,O3⟩
   case round =>
    clear HB X O HL HQ HL3 HQ3 HM3 HB3 X3 O3 HW3
    obtain ⟨j,l,rfl,hj,HN2,HL,HQ,HM,HB,X,O⟩:=hrel
    obtain ⟨ad2,A5,c5,eA2,z0,z1,z2,z3,zk,l5,g5⟩:=at_T66 (Kd.C_below HC.out HB.out) (i : Int) (by omega) (by omega)
    rw [rdT24 ns i hlt,← HKE.out] at zk l5 g5
    rw [Int.toNat_natCast] at zk
    cases eA2
    have c0:=bc_ X.out 0
    by_cases hlj : j < kl.length
    ·obtain ⟨adK,eK,y0⟩:=kid_at g5 j hlj
     have hin:=HRG2.out kl[j] (List.getElem_mem hlj)
     have htk : mxs D 1 (kl.take (j + 1)) = mx (mxs D 1 (kl.take j)) (1 + D kl[j]):=by rw [List.take_succ_eq_append_getElem hlj,mxs_snoc]
     obtain ⟨c,hc⟩ : ∃ c,c = kl[j]:=⟨_,rfl⟩
     rw [← hc] at y0 hin htk
     obtain ⟨cn,hcn⟩:=Int.eq_ofNat_of_zero_le hin.1
     have hdc:=HDN.out cn (by omega)
     have hrc:=HQ.out cn (by omega)
     rw [← hcn] at hdc hrc
     have hl:=HL.out
     have e0 : (0 ≤ c) = True:=eq_true hin.1
     have e1 : (c < (ns.length : Int)) = True:=eq_true (by omega)
     have dc:=(zAh O.out c.toNat).trans (zAO l c hin.1 (by omega))
     have di : wr.cell? ⟨g,i,none⟩ = some (.int .i64 (rd l (i : Int))):=(zAh O.out i).trans (by have:=zAO l (i : Int) (by omega) (by omega); rwa [Int.toNat_natCast] at this)
     rw [hrc] at dc
     obtain ⟨vc,hvc⟩ : ∃ vc,vc = D c:=⟨_,rfl⟩
     obtain ⟨vi,hvi⟩ : ∃ vi,vi = rd l (i : Int):=⟨_,rfl⟩
     rw [← hvc] at dc hdc htk
     rw [← hvi] at di HM
     have hw1:=i64_id (1 + vc) (by omega) (by omega)
     rw [← HM.out] at htk
     rw [show mx vi (1 + vc) = max vi (1 + vc) by unfold mx; split <;> omega] at htk
     obtain ⟨m,hm⟩ : ∃ m,m = max vi (1 + vc):=⟨_,rfl⟩
     rw [← hm] at htk
     have HL4 : Hid ((l.set i m).length = ns.length):=Lib.hid (by rw [List.length_set]; exact hl)
     have HQ4 : Hid (∀ j : Nat,j < i → rd (l.set i m) (j : Int) = D (j : Int)):=Lib.hid (fun j hj => by rw [rd_set _ _ _ _ (by omega),if_neg (by omega)]; exact HQ.out j hj)
     have HM4 : Hid (rd (l.set i m) (i : Int) = mxs D 1 (kl.take (j + 1))):=Lib.hid (by rw [rd_set _ _ _ _ (by omega),if_pos rfl,htk])
     have O4 : Hid ((wr.setCell ⟨g,i,none⟩ (.int .i64 m)).drew.heap[g]? = some (.cells (intCells (l.set i m)) 3 (0,0))):=Lib.hid (zAl (blk_put O.out _ _ (by simpa using zBv l (i : Int) m)))
     have X4 : Hid ((wr.setCell ⟨g,i,none⟩ (.int .i64 m)).drew.heap[w.heap.size]? = some (.cells #[.slice (some ad) ns.length ct,.int .i64 root] 24 (0,0))):=Lib.hid (zAl (blk_far X.out (by have:=HLT.out; show w.heap.size ≠ g; omega) _))
     have HB4 : Hid (Below w.heap.size w (wr.setCell ⟨g,i,none⟩ (.int .i64 m)).drew):=Lib.hid (zAk (HB.out.setCell HGW.out _))
     have HMM:=Lib.hid hm
     clear hm
     cases eK
     clear hc hl hin z0 z1 z2 z3 g5 hcn hrc hdc hvc hvi htk
     go_wp2_with fail
     refine start_ (n:=22) (S:=fun w' => w'.cell? ⟨w.heap.size,0,none⟩ = some (.slice (some ad) ns.length ct) ∧ w'.cell? ⟨(ad.add (i * 5)).block,(ad.add (i * 5)).off + 4,none⟩ = some (.slice (some adK) kl.length c5) ∧ w'.cell? (adK.add j) = some (.int .i64 c) ∧ w'.cell? ⟨g,i,none⟩ = some (.int .i64 vi) ∧ w'.cell? ⟨g,c.toNat,none⟩ = some (.int .i64 vc)) (ds:=[21]) #[false,false,false,false,false,false,false,false,false,false,false,false,false,false,false,false,false,false,false,false,false,false] (by kernel_rfl) rfl rfl ⟨zAg c0,zAg zk,zAg y0,zAg di,zAg dc⟩ (fun hHeld => ?_)
     refine pu_ 0 36 ?_
     refine pu_ 1 37 ?_
     refine pu_ 2 38 ?_
     refine pu_ 3 39 ?_
     refine pu_ 4 40 ?_
     refine pu_ 6 42 ?_
     refine pu_ 7 43 ?_
     refine pu_ 9 45 ?_
     refine pu_ 13 49 ?_
     refine ta_ 5 41 hHeld ?_
     refine ta_ 8 44 hHeld ?_
     refine pu_ 10 46 ?_
     refine pu_ 11 47 ?_
     refine ta_ 12 48 hHeld ?_
     refine pu_ 14 50 ?_
     refine ta_ 15 51 hHeld ?_
     refine pu_ 16 52 ?_
     refine ta_ 17 53 hHeld ?_
     refine pu_ 18 54 ?_
     refine pu_ 19 55 ?_
     refine pu_ 20 56 ?_
     refine last_ (i:=21) (N:=none) #[true,true,true,true,true,true,true,true,true,true,true,true,true,true,true,true,true,true,true,true,true,true] rfl rfl (by kernel_rfl) (by decide) (fun K hK => ?_)
     have d0:=zAg di
     have f0:=zAc (zAl O.out) i
     refine skip_ (w1:=?_) (by rfl) rfl ?_ ?_
     rotate_left
     ·go_simp
      rfl
     refine hK.out _ _ ?_
     clear hK K
     refine done_ (by kernel_rfl) ?_
     rw [← HMM.out]
     go_wp2_with fail
     go_roundg (gk - 1)
     case measure => have:=HN2.out; omega
     case rel => exact ⟨j + 1,_,by norm_cast,hlj,Lib.hid (by have:=HN2.out; omega),HL4,HQ4,HM4,HB4,X4,O4⟩
    ·obtain rfl : j = kl.length:=by omega
     have hm:=HM.out
     rw [List.take_length,HDI.out.1] at hm
     have HQ5 : Hid (∀ j : Nat,j < i + 1 → rd l (j : Int) = D (j : Int)):=Lib.hid (fun j hj => by
      rcases Nat.lt_or_ge j i with h | h
      ·exact HQ.out j h
      ·rw [show j = i by omega]; exact hm)
     clear hm HQ HM z0 z1 z2 z3 g5
     go_wp2_with fail
     go_roundg (go' - 1)
     case measure => have:=HN.out; have:=HGO.out; omega
     case rel => exact ⟨i + 1,l,by norm_cast,hlt,Lib.hid (by have:=HN.out; have:=HGO.out; omega),HL,HQ5,HB,X,O⟩
  ·obtain rfl : i = ns.length:=by omega
   have c0:=bc_ X.out 0
   have c1:=bc_ X.out 1
   have hl:=HL.out
   have d0:=(zAh O.out root.toNat).trans (zAO l root HR0.out (by have:=HR1.out; omega))
   obtain ⟨rn,hrn⟩:=Int.eq_ofNat_of_zero_le HR0.out
   have hv:=HQ.out rn (by have:=HR1.out; omega)
   rw [← hrn,← HTD.out] at hv
   rw [hv] at d0
   have e0:=eq_true HR0.out
   have e1:=eq_true HR1.out
   clear hl hv hrn
   go_wp2_with fail
   go_ret
   exact ⟨rfl,HB.out⟩
attribute [local go_sem] zAP zAQ max_two min_two zAK zAJ zAS zAR
def zAw.f (a0 : Int) : Option (Bool):=if a0 ≥ 48 then (some (decide (a0 ≤ 57))) else (some false)
theorem zAw.calls (a0 : Int) (r : Bool) (w : World) (h : zAw.f a0 = some r) :
  Calls Tryz.prog 140 #[.int .u8 a0] w fun e w' => e = .returned (.bool r) ∧ Drawn0 w w':=by
 have H : (if a0 ≥ 48 then (some (decide (a0 ≤ 57))) else (some false)) = some r:=h
 clear h
 by_cases c2 : a0 ≥ 48
 ·rw [if_pos c2] at H
  have c2b0 : decide (48 ≤ a0) = true:=decide_eq_true c2
  clear c2
  obtain rfl:=Option.some.inj H
  go_enter Tryz.func140,Tryz.ntmps140
  go_wp2
  go_ret
  exact ⟨by first | rfl | (simp; done) | (simp [*]; done),by repeat (first | exact Drawn0.refl _ | apply Drawn0.step)⟩
 ·rw [if_neg c2] at H
  have c2b0 : decide (48 ≤ a0) = false:=decide_eq_false c2
  clear c2
  obtain rfl:=Option.some.inj H
  go_enter Tryz.func140,Tryz.ntmps140
  go_wp2
  go_ret
  exact ⟨by first | rfl | (simp; done) | (simp [*]; done),by repeat (first | exact Drawn0.refl _ | apply Drawn0.step)⟩
def zAY.f (a0 : Int) : Option (Bool):=(zAw.f a0).bind fun t235 => (if t235 = true then (some true) else (if a0 ≥ 97 then (if a0 ≤ 122 then (some true) else (if a0 ≥ 65 then (if a0 ≤ 90 then (some true) else (some (a0 == 95))) else (some (a0 == 95)))) else (if a0 ≥ 65 then (if a0 ≤ 90 then (some true) else (some (a0 == 95))) else (some (a0 == 95)))))
theorem zAY.calls (a0 : Int) (r : Bool) (w : World) (h : zAY.f a0 = some r) :
  Calls Tryz.prog 138 #[.int .u8 a0] w fun e w' => e = .returned (.bool r) ∧ Drawn0 w w':=by
 have H : ((zAw.f a0).bind fun t235 => (if t235 = true then (some true) else (if a0 ≥ 97 then (if a0 ≤ 122 then (some true) else (if a0 ≥ 65 then (if a0 ≤ 90 then (some true) else (some (a0 == 95))) else (some (a0 == 95)))) else (if a0 ≥ 65 then (if a0 ≤ 90 then (some true) else (some (a0 == 95))) else (some (a0 == 95)))))) = some r:=h
 clear h
 replace H:=Option.bind_eq_some_iff.mp H
 obtain ⟨t235,A20,H⟩:=H
 replace H : (if t235 = true then (some true) else (if a0 ≥ 97 then (if a0 ≤ 122 then (some true) else (if a0 ≥ 65 then (if a0 ≤ 90 then (some true) else (some (a0 == 95))) else (some (a0 == 95)))) else (if a0 ≥ 65 then (if a0 ≤ 90 then (some true) else (some (a0 == 95))) else (some (a0 == 95))))) = some r:=H
 have A2:=Aside0.mk A20
 clear A20
 by_cases c3 : t235 = true
 ·subst c3
  have H1 : (some true) = some r:=by rw [if_pos rfl] at H; exact H
  clear H
  have H:=H1
  clear H1
  obtain rfl:=Option.some.inj H
  go_enter Tryz.func138,Tryz.ntmps138
  go_wp2_with (first | ((with_reducible refine zAF (f:=140) rfl ?_); refine goesL_ (some 4) rfl rfl Tryz.func140 (by kernel_rfl) rfl #[.int .u8 a0] rfl (by (try simp only [List.map_toArray,List.map_cons,List.map_nil]); first | done | rfl | (simp only [List.length_drop,List.length_take]; rfl)) ?_; (with_reducible refine (zAw.calls a0 true _ A2.out).mono ?_); rintro e w' ⟨rfl,⟨nd,rfl⟩⟩; refine ⟨_,rfl,?_⟩))
  go_ret
  exact ⟨by first | rfl | (simp; done) | (simp [*]; done),by repeat (first | exact Drawn0.refl _ | apply Drawn0.step)⟩
 ·replace c3:=Bool.eq_false_iff.mpr c3
  subst c3
  have H1 : (if a0 ≥ 97 then (if a0 ≤ 122 then (some true) else (if a0 ≥ 65 then (if a0 ≤ 90 then (some true) else (some (a0 == 95))) else (some (a0 == 95)))) else (if a0 ≥ 65 then (if a0 ≤ 90 then (some true) else (some (a0 == 95))) else (some (a0 == 95)))) = some r:=by rw [if_neg (show ¬ (false = true) by decide)] at H; exact H
  clear H
  have H:=H1
  clear H1
  by_cases c4 : a0 ≥ 97
  ·rw [if_pos c4] at H
   have c4b0 : decide (97 ≤ a0) = true:=decide_eq_true c4
   clear c4
   by_cases c5 : a0 ≤ 122
   ·rw [if_pos c5] at H
    have c5b0 : decide (a0 ≤ 122) = true:=decide_eq_true c5
    clear c5
    obtain rfl:=Option.some.inj H
    go_enter Tryz.func138,Tryz.ntmps138
    go_wp2_with (first | ((with_reducible refine zAF (f:=140) rfl ?_); refine goesL_ (some 4) rfl rfl Tryz.func140 (by kernel_rfl) rfl #[.int .u8 a0] rfl (by (try simp only [List.map_toArray,List.map_cons,List.map_nil]); first | done | rfl | (simp only [List.length_drop,List.length_take]; rfl)) ?_; (with_reducible refine (zAw.calls a0 false _ A2.out).mono ?_); rintro e w' ⟨rfl,⟨nd,rfl⟩⟩; refine ⟨_,rfl,?_⟩))
    go_ret
    exact ⟨by first | rfl | (simp; done) | (simp [*]; done),by repeat (first | exact Drawn0.refl _ | apply Drawn0.step)⟩
   ·rw [if_neg c5] at H
    have c5b0 : decide (a0 ≤ 122) = false:=decide_eq_false c5
    clear c5
    by_cases c6 : a0 ≥ 65
    ·rw [if_pos c6] at H
     have c6b0 : decide (65 ≤ a0) = true:=decide_eq_true c6
     clear c6
     by_cases c7 : a0 ≤ 90
     ·rw [if_pos c7] at H
      have c7b0 : decide (a0 ≤ 90) = true:=decide_eq_true c7
      clear c7
      obtain rfl:=Option.some.inj H
      go_enter Tryz.func138,Tryz.ntmps138
      go_wp2_with (first | ((with_reducible refine zAF (f:=140) rfl ?_); refine goesL_ (some 4) rfl rfl Tryz.func140 (by kernel_rfl) rfl #[.int .u8 a0] rfl (by (try simp only [List.map_toArray,List.map_cons,List.map_nil]); first | done | rfl | (simp only [List.length_drop,List.length_take]; rfl)) ?_; (with_reducible refine (zAw.calls a0 false _ A2.out).mono ?_); rintro e w' ⟨rfl,⟨nd,rfl⟩⟩; refine ⟨_,rfl,?_⟩))
      go_ret
      exact ⟨by first | rfl | (simp; done) | (simp [*]; done),by repeat (first | exact Drawn0.refl _ | apply Drawn0.step)⟩
     ·rw [if_neg c7] at H
      have c7b0 : decide (a0 ≤ 90) = false:=decide_eq_false c7
      clear c7
      obtain rfl:=Option.some.inj H
      go_enter Tryz.func138,Tryz.ntmps138
      go_wp2_with (first | ((with_reducible refine zAF (f:=140) rfl ?_); refine goesL_ (some 4) rfl rfl Tryz.func140 (by kernel_rfl) rfl #[.int .u8 a0] rfl (by (try simp only [List.map_toArray,List.map_cons,List.map_nil]); first | done | rfl | (simp only [List.length_drop,List.length_take]; rfl)) ?_; (with_reducible refine (zAw.calls a0 false _ A2.out).mono ?_); rintro e w' ⟨rfl,⟨nd,rfl⟩⟩; refine ⟨_,rfl,?_⟩))
      go_ret
      exact ⟨by first | rfl | (simp; done) | (simp [*]; done),by repeat (first | exact Drawn0.refl _ | apply Drawn0.step)⟩
    ·rw [if_neg c6] at H
     have c6b0 : decide (65 ≤ a0) = false:=decide_eq_false c6
     clear c6
     obtain rfl:=Option.some.inj H
     go_enter Tryz.func138,Tryz.ntmps138
     go_wp2_with (first | ((with_reducible refine zAF (f:=140) rfl ?_); refine goesL_ (some 4) rfl rfl Tryz.func140 (by kernel_rfl) rfl #[.int .u8 a0] rfl (by (try simp only [List.map_toArray,List.map_cons,List.map_nil]); first | done | rfl | (simp only [List.length_drop,List.length_take]; rfl)) ?_; (with_reducible refine (zAw.calls a0 false _ A2.out).mono ?_); rintro e w' ⟨rfl,⟨nd,rfl⟩⟩; refine ⟨_,rfl,?_⟩))
     go_ret
     exact ⟨by first | rfl | (simp; done) | (simp [*]; done),by repeat (first | exact Drawn0.refl _ | apply Drawn0.step)⟩
  ·rw [if_neg c4] at H
   have c4b0 : decide (97 ≤ a0) = false:=decide_eq_false c4
   clear c4
   by_cases c8 : a0 ≥ 65
   ·rw [if_pos c8] at H
    have c8b0 : decide (65 ≤ a0) = true:=decide_eq_true c8
    clear c8
    by_cases c9 : a0 ≤ 90
    ·rw [if_pos c9] at H
     have c9b0 : decide (a0 ≤ 90) = true:=decide_eq_true c9
     clear c9
     obtain rfl:=Option.some.inj H
     go_enter Tryz.func138,Tryz.ntmps138
     go_wp2_with (first | ((with_reducible refine zAF (f:=140) rfl ?_); refine goesL_ (some 4) rfl rfl Tryz.func140 (by kernel_rfl) rfl #[.int .u8 a0] rfl (by (try simp only [List.map_toArray,List.map_cons,List.map_nil]); first | done | rfl | (simp only [List.length_drop,List.length_take]; rfl)) ?_; (with_reducible refine (zAw.calls a0 false _ A2.out).mono ?_); rintro e w' ⟨rfl,⟨nd,rfl⟩⟩; refine ⟨_,rfl,?_⟩))
     go_ret
     exact ⟨by first | rfl | (simp; done) | (simp [*]; done),by repeat (first | exact Drawn0.refl _ | apply Drawn0.step)⟩
    ·rw [if_neg c9] at H
     have c9b0 : decide (a0 ≤ 90) = false:=decide_eq_false c9
     clear c9
     obtain rfl:=Option.some.inj H
     go_enter Tryz.func138,Tryz.ntmps138
     go_wp2_with (first | ((with_reducible refine zAF (f:=140) rfl ?_); refine goesL_ (some 4) rfl rfl Tryz.func140 (by kernel_rfl) rfl #[.int .u8 a0] rfl (by (try simp only [List.map_toArray,List.map_cons,List.map_nil]); first | done | rfl | (simp only [List.length_drop,List.length_take]; rfl)) ?_; (with_reducible refine (zAw.calls a0 false _ A2.out).mono ?_); rintro e w' ⟨rfl,⟨nd,rfl⟩⟩; refine ⟨_,rfl,?_⟩))
     go_ret
     exact ⟨by first | rfl | (simp; done) | (simp [*]; done),by repeat (first | exact Drawn0.refl _ | apply Drawn0.step)⟩
   ·rw [if_neg c8] at H
    have c8b0 : decide (65 ≤ a0) = false:=decide_eq_false c8
    clear c8
    obtain rfl:=Option.some.inj H
    go_enter Tryz.func138,Tryz.ntmps138
    go_wp2_with (first | ((with_reducible refine zAF (f:=140) rfl ?_); refine goesL_ (some 4) rfl rfl Tryz.func140 (by kernel_rfl) rfl #[.int .u8 a0] rfl (by (try simp only [List.map_toArray,List.map_cons,List.map_nil]); first | done | rfl | (simp only [List.length_drop,List.length_take]; rfl)) ?_; (with_reducible refine (zAw.calls a0 false _ A2.out).mono ?_); rintro e w' ⟨rfl,⟨nd,rfl⟩⟩; refine ⟨_,rfl,?_⟩))
    go_ret
    exact ⟨by first | rfl | (simp; done) | (simp [*]; done),by repeat (first | exact Drawn0.refl _ | apply Drawn0.step)⟩
end Go.Proofs.YtkhlfdcjgooogaaGreat.P
