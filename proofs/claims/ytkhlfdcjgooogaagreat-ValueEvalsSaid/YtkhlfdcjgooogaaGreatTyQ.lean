import Derived.Test.YtkhlfdcjgooogaaGreatWMore
import Derived.Test.YtkhlfdcjgooogaaGreatTyP
import Derived.Test.YtkhlfdcjgooogaaGreatPf62
set_option maxRecDepth 100000
set_option maxHeartbeats 16000000
set_option linter.unusedVariables false
set_option linter.unusedSimpArgs false
set_option linter.unusedSectionVars false
namespace Go.Proofs.YtkhlfdcjgooogaaGreat.P
open Go.RowKit Go.Proofs.YtkhlfdcjgooogaaGreatW.PrintWords Go.Proofs.YtkhlfdcjgooogaaGreatW.PrintLast Go.Proofs.YtkhlfdcjgooogaaGreatW.PrintMore
theorem learn_made (w : World) (c1 c2 : Array Value) (t1 t2 : TypeId) : (((((w.alloc (.cells c1 t1)).alloc (.map #[] 0)).alloc (.map #[] 0)).alloc (.map #[] 0)).alloc (.cells c2 t2)).heap[w.heap.size]? = some (.cells c1 t1 (0,0)) ∧
  SMap (((((w.alloc (.cells c1 t1)).alloc (.map #[] 0)).alloc (.map #[] 0)).alloc (.map #[] 0)).alloc (.cells c2 t2)) (w.heap.size + 1) 0 (fun _ => none) ∧
  SMap (((((w.alloc (.cells c1 t1)).alloc (.map #[] 0)).alloc (.map #[] 0)).alloc (.map #[] 0)).alloc (.cells c2 t2)) (w.heap.size + 1 + 1) 0 (fun _ => none) ∧
  LMap (((((w.alloc (.cells c1 t1)).alloc (.map #[] 0)).alloc (.map #[] 0)).alloc (.map #[] 0)).alloc (.cells c2 t2)) (w.heap.size + 1 + 1 + 1) 0 (fun _ => none) ∧
  (((((w.alloc (.cells c1 t1)).alloc (.map #[] 0)).alloc (.map #[] 0)).alloc (.map #[] 0)).alloc (.cells c2 t2)).heap[w.heap.size + 1 + 1 + 1 + 1]? = some (.cells c2 t2 (0,0)) ∧
  Below w.heap.size w (((((w.alloc (.cells c1 t1)).alloc (.map #[] 0)).alloc (.map #[] 0)).alloc (.map #[] 0)).alloc (.cells c2 t2)) ∧
  (((((w.alloc (.cells c1 t1)).alloc (.map #[] 0)).alloc (.map #[] 0)).alloc (.map #[] 0)).alloc (.cells c2 t2)).heap.size = w.heap.size + 1 + 1 + 1 + 1 + 1:=by
 have e1 : (w.alloc (.cells c1 t1)).heap.size = w.heap.size + 1:=by simp
 have e2 : ((w.alloc (.cells c1 t1)).alloc (.map #[] 0)).heap.size = w.heap.size + 1 + 1:=by simp
 have e3 : (((w.alloc (.cells c1 t1)).alloc (.map #[] 0)).alloc (.map #[] 0)).heap.size = w.heap.size + 1 + 1 + 1:=by simp
 have e4 : ((((w.alloc (.cells c1 t1)).alloc (.map #[] 0)).alloc (.map #[] 0)).alloc (.map #[] 0)).heap.size = w.heap.size + 1 + 1 + 1 + 1:=by simp
 refine ⟨zAj (zAj (zAj (zAj (blk_new w _) _) _) _) _,?_,?_,?_,?_,zAa (zAa (zAa (zAa (zAa (Below.refl _ _) _) _) _) _) _,by simp⟩
 ·rw [← e1]
  exact (((SMap.made (w.alloc (.cells c1 t1))).kept (World.grownBy_alloc _ _ none) (by simp)).kept (World.grownBy_alloc _ _ none) (by simp)).kept (World.grownBy_alloc _ _ none) (by simp)
 ·rw [← e2]
  exact ((SMap.made ((w.alloc (.cells c1 t1)).alloc (.map #[] 0))).kept (World.grownBy_alloc _ _ none) (by simp)).kept (World.grownBy_alloc _ _ none) (by simp)
 ·rw [← e3]
  exact (LMap.made (((w.alloc (.cells c1 t1)).alloc (.map #[] 0)).alloc (.map #[] 0))).kept (World.grownBy_alloc _ _ none) (by simp)
 ·rw [← e4]
  exact blk_new _ _
theorem made_ints (m : Nat) : madeCells (Value.int .i64 0).cells (m * 1) = intCells (List.replicate m 0):=by
 apply Array.ext
 ·simp [madeCells,intCells]
 ·intro i h1 h2
  simp [madeCells,intCells,Value.cells,Nat.mod_one]
theorem zBY (n : Nat) (hn : n ≤ 4000) (W : World) : (Instr.makeSlice 64 (.int .i64 n) (.int .i64 n)).run Tryz.prog W = .ok (.slice (some ⟨W.heap.size,0,none⟩) n n) (W.alloc (.cells (intCells (List.replicate n 0)) 3)):=by
 obtain ⟨i3,hi3,hz3⟩:=Option.map_eq_some_iff.1 info3
 simp only [Prod.mk.injEq] at hz3
 have:=run_make (P:=Tryz.prog) W 64 3 i3 (.int .i64 0) Tryz.underlying64 hi3 hz3.1 .i64 .i64 (n : Int) (n : Int) (by omega) (Int.le_refl _) (by rw [hz3.2.2]; omega) (by omega)
 simp only [Int.toNat_natCast] at this
 rw [this,hz3.2.1,made_ints]
theorem learn_is (At : Option Addr) (ct : Nat) (ns : List S66) (root : Int) (w : World) (hC : Kd.C k66 w At ns.length ns) (hct : ns.length ≤ ct) (hn0 : 0 < ns.length) (hn : ns.length ≤ 4000) (hs : ∀ x ∈ ns,x.f3.size ≤ 140737488351232) (hroot : root = (ns.length : Int) - 1)
  (kf : Nat) (ps : List Int) (hpar : zAm.f kf ns root = some ps) (hpl : ps.length = ns.length) (hpr : ∀ i : Int,0 ≤ i → i < root → i < rd ps i ∧ rd ps i < ns.length)
  (ol : List Int) (hol : OwnEq ns ps root ol) (hown : OwnOk ns ol) (hpre : ∀ i : Int,0 ≤ i → i < ns.length → kdOf ns i = 4 ∨ kdOf ns i = 5 → rd ol i ≠ -1) :
  Calls Tryz.prog 33 #[.agg #[.slice At ns.length ct,.int .i64 root]] w fun e w' => ∃ p,e = .returned (.pointer (some ⟨p,0,none⟩)) ∧ Sc p At ct ns root ol w' ∧ Below w.heap.size w w':=by
 have hmm:=@run_makeMap Tryz.prog
 have HC:=Lib.hid hC
 have HPAR:=Lib.hid hpar
 have HPR:=Lib.hid hpr
 have HOL:=Lib.hid hol
 have HOWN:=Lib.hid hown
 have HPRE:=Lib.hid hpre
 have HSZ:=Lib.hid hs
 clear hC hpar hpr hol hown hpre hs
 obtain ⟨b1,b2,b3,b4,b5,b6,b7⟩:=learn_made w #[.slice At ns.length ct,.int .i64 root] #[.slice At ns.length ct,.int .i64 root,.slice none 0 0,.map (some (w.heap.size + 1)),.map (some (w.heap.size + 1 + 1)),.map (some (w.heap.size + 1 + 1 + 1))] 24 121
 obtain ⟨W1,hW1⟩ : ∃ W1,W1 = ((((w.alloc (.cells #[.slice At ns.length ct,.int .i64 root] 24)).alloc (.map #[] 0)).alloc (.map #[] 0)).alloc (.map #[] 0)).alloc (.cells #[.slice At ns.length ct,.int .i64 root,.slice none 0 0,.map (some (w.heap.size + 1)),.map (some (w.heap.size + 1 + 1)),.map (some (w.heap.size + 1 + 1 + 1))] 121):=⟨_,rfl⟩
 rw [← hW1] at b1 b2 b3 b4 b5 b6 b7
 have B1:=Lib.hid b1
 have B2:=Lib.hid b2
 have B3:=Lib.hid b3
 have B4:=Lib.hid b4
 have B5:=Lib.hid b5
 have B6:=Lib.hid b6
 have B7:=Lib.hid b7
 have HW1:=Lib.hid hW1
 clear b1 b2 b3 b4 b5 b6 b7 hW1
 have HRT:=Lib.hid hroot
 clear hroot
 go_enter Tryz.func33,Tryz.ntmps33
 go_wp2_with fail
 rw [← HW1.out]
 refine (zAm.calls kf At ct ns root ps W1 (Kd.C_below HC.out B6.out) hct HPAR.out).mono ?_
 rintro e_ W2 ⟨v,rfl,hr_,hb_⟩
 have howr:=Kd.zDu hr_
 rw [hpl] at howr
 obtain ⟨gp,cp,curp,rfl,hgp,hcurp,hncp,htake⟩ : ∃ gp cp curp,v = .slice (some ⟨gp,0,none⟩) ns.length cp ∧ W1.heap.size ≤ gp ∧ W2.heap[gp]? = some (.cells curp 3 (0,0)) ∧ ns.length ≤ cp ∧ ∀ i : Int,0 ≤ i → i < ns.length → curp[i.toNat]? = some (.int .i64 (rd ps i)):=by
  obtain ⟨h1,h2⟩:=howr
  rcases h2 with ⟨_,h0⟩ | ⟨g,cap,cur,hv,hb,hh,hnc,hcm,hcs,ht⟩
  ·omega
  ·refine ⟨g,cap,cur,hv,hb,hh,hnc,fun i h0 h1 => ?_⟩
   have hi : i.toNat < ps.length:=by omega
   have h3 : (cur.toList.take (ns.length * 1))[i.toNat]? = some (.int .i64 (rd ps i)):=by
    rw [ht]
    simp [encs,rd,hi]
   rw [List.getElem?_take] at h3
   split at h3
   ·simpa using h3
   ·cases h3
 have HGP:=Lib.hid hgp
 have X2:=Lib.hid hcurp
 have HTK:=Lib.hid htake
 have B12 : Hid (W2.heap[w.heap.size]? = _):=Lib.hid (zAe B1.out hb_)
 have B52 : Hid (W2.heap[w.heap.size + 1 + 1 + 1 + 1]? = _):=Lib.hid (zAe B5.out hb_)
 have B22:=Lib.hid (B2.out.of_heap (hb_.block _ B2.out.lt))
 have B32:=Lib.hid (B3.out.of_heap (hb_.block _ B3.out.lt))
 have B42:=Lib.hid (B4.out.of_heap (hb_.block _ B4.out.lt))
 have HB2:=Lib.hid (zAd B6.out hb_)
 clear howr hr_ hgp hcurp htake hb_
 have hmk:=zBY ns.length hn
 have d0:=bc_ B12.out 0
 have a2:=zAj B52.out (.cells (intCells (List.replicate ns.length 0)) 3)
 have d2:=bc_ a2 2
 have f2:=zAc a2 (1 + 1)
 have a3 : (W2.alloc (.cells (intCells (List.replicate ns.length 0)) 3)).heap[W2.heap.size]? = some (.cells (intCells (List.replicate ns.length 0)) 3 (0,0)):=blk_new W2 _
 have b7 : W2.heap.size ≥ gp + 1:=blk_lt X2.out
 have b8:=B7.out
 have b9:=HGP.out
 have fx : Fx w.heap.size w.heap.size (w.heap.size + 1) (w.heap.size + 1 + 1) (w.heap.size + 1 + 1 + 1) (w.heap.size + 1 + 1 + 1 + 1) gp W2.heap.size:=⟨by omega⟩
 obtain ⟨W3,hW3⟩ : ∃ W3,W3 = (W2.alloc (.cells (intCells (List.replicate ns.length 0)) 3)).setCell ⟨w.heap.size + 1 + 1 + 1 + 1,2,none⟩ (.slice (some ⟨W2.heap.size,0,none⟩) ns.length ns.length):=⟨_,rfl⟩
 have far3 : ∀ b,b ≠ w.heap.size + 1 + 1 + 1 + 1 → W3.heap[b]? = (W2.alloc (.cells (intCells (List.replicate ns.length 0)) 3)).heap[b]?:=fun b hb => by rw [hW3]; exact Below.heap_setCell _ ⟨w.heap.size + 1 + 1 + 1 + 1,2,none⟩ _ b hb
 have old3 : ∀ b o,W2.heap[b]? = some o → b ≠ w.heap.size + 1 + 1 + 1 + 1 → W3.heap[b]? = some o:=fun b o h hb => (far3 b hb).trans (zAj h _)
 have same3 : ∀ b,b < W2.heap.size → b ≠ w.heap.size + 1 + 1 + 1 + 1 → W3.heap[b]? = W2.heap[b]?:=fun b h hb => (far3 b hb).trans (Below.heap_alloc W2 _ b h)
 have L0 : Hid (L1 w w.heap.size (w.heap.size + 1) (w.heap.size + 1 + 1) (w.heap.size + 1 + 1 + 1) (w.heap.size + 1 + 1 + 1 + 1) gp W2.heap.size curp At ct ns root ol W3 ns.length ns.length (List.replicate ns.length 0) (fun _ => none) 0):=Lib.hid {
  hp:=by rw [hW3]; exact blk_put a2 2 _ rfl
  hO:=(far3 _ (by omega)).trans a3
  hT:=old3 _ _ B12.out (by omega)
  hP:=old3 _ _ X2.out (by omega)
  hG:=B22.out.of_heap (same3 _ (by omega) (by omega))
  hR:=B32.out.of_heap (same3 _ (by omega) (by omega))
  hL:=B42.out.of_heap (same3 _ (by omega) (by omega))
  hm:=by omega
  hLs:=fun o b e => by cases e
  hLi:=fun o o' b e => by cases e
  hLd:=fun o h1 h2 => by omega
  hlen:=by simp
  hcl:=fun x h1 h2 => by omega
  hB:=by rw [hW3]; exact Below.setCell (zAa HB2.out _) (p:=⟨w.heap.size + 1 + 1 + 1 + 1,2,none⟩) (by show w.heap.size ≤ w.heap.size + 1 + 1 + 1 + 1; omega) _ }
 have d1:=bc_ L0.out.hT 1
 have FX:=Lib.hid fx
 have HW3:=Lib.hid hW3
 rw [hW3] at d1
 clear a2 a3 b7 b8 b9 fx far3 old3 same3 hW3
 go_wp2_with fail
 rw [← HW3.out]
 clear d0 d1 d2 f2 hmk B1 B2 B3 B4 B5 B6 B7 B12 B52 B22 B32 B42 HGP X2 HW1
 obtain ⟨bo,hbo⟩ : ∃ bo,bo = W2.heap.size:=⟨_,rfl⟩
 rw [← hbo] at FX L0 ⊢
 obtain ⟨N,hN⟩ : ∃ N,N = w.heap.size:=⟨_,rfl⟩
 clear hbo HW3
 go_loopg [5] (ns.length + 1) (fun kq v5 W => ∃ (j : Nat) (x : Int) (cl : List Int) (Lb : Int → Option Nat) (m : Nat),v5 = .int .i64 x ∧ Hid (x = (j : Int) - 1) ∧ j ≤ ns.length ∧ Hid (kq = j + 1) ∧ Hid (L1 w w.heap.size (w.heap.size + 1) (w.heap.size + 1 + 1) (w.heap.size + 1 + 1 + 1) (w.heap.size + 1 + 1 + 1 + 1) gp bo curp At ct ns root ol W j j cl Lb m))
 case atStart => exact ⟨ns.length,root,_,_,0,rfl,HRT,Nat.le_refl _,Lib.hid rfl,L0⟩
 case round =>
  obtain ⟨j,x,cl,Lb,m,rfl,HX,hj,HN,HL⟩:=hrel
  clear L0
  by_cases hj0 : 0 < j
  ·obtain ⟨i,rfl⟩ : ∃ i,j = i + 1:=⟨j - 1,by omega⟩
   obtain rfl : x = (i : Int):=by have:=HX.out; omega
   have hin : (i : Int) < ns.length:=by omega
   have h0i : (0 : Int) ≤ i:=by omega
   obtain ⟨ad,A4,c4,eA,z0,z1,z2,z3,z4,l4,g4⟩:=at_T66 (Kd.C_below HC.out HL.out.hB) (i : Int) h0i hin
   have d0:=bc_ HL.out.hT 0
   have hk0 : kdOf ns i = (rd_T66 ns i).f0:=rfl
   obtain ⟨k,hk⟩ : ∃ k,k = kdOf ns i:=⟨_,rfl⟩
   have HK:=Lib.hid hk
   rw [← hk0,← hk] at z0
   clear hk0
   obtain ⟨y,hy⟩ : ∃ y,y = rd_T66 ns (i : Int):=⟨_,rfl⟩
   rw [← hy] at z1 z2 z3 z4
   obtain ⟨k_,n,at_,tx,kl⟩:=y
   dsimp only at z1 z2 z3 z4
   rw [Int.toNat_natCast] at z0 z1 z2 z3 z4
   have hba : Below wr.heap.size wr (wr.alloc (.cells #[.int .i64 k,.int .i64 n,.int .i64 at_,.string tx,.slice A4 kl.length c4] 66)):=zAa (Below.refl _ _) _
   obtain ⟨Wa,hWa⟩ : ∃ Wa,Wa = wr.alloc (.cells #[.int .i64 k,.int .i64 n,.int .i64 at_,.string tx,.slice A4 kl.length c4] 66):=⟨_,rfl⟩
   rw [← hWa] at hba
   have HA:=Lib.hid (HL.out.below hba)
   have q0:=bc_ HA.out.hT 1
   have q2:=bc_ HA.out.hp 2
   have q3 : Wa.cell? ⟨bo,i,none⟩ = some (.int .i64 (rd cl (i : Int))):=by
    have:=(zAh HA.out.hO ((i : Int).toNat)).trans (zAO cl (i : Int) h0i (by rw [HL.out.hlen]; exact hin))
    simpa using this
   have f3:=zAc HA.out.hO i
   have HWA:=Lib.hid hWa
   have HOI:=Lib.hid (HOL.out.2 (i : Int) h0i hin)
   cases eA
   clear hk hy l4 g4 hba
   by_cases k3 : k = 3
   ·subst k3
    have hoi : rd ol (i : Int) = i:=by rw [HOI.out,if_pos HK.out.symm]
    have hb:=HA.out.own FX.out (show i < ns.length by omega)
    rw [hoi] at hb
    obtain ⟨Wb,hWb⟩ : ∃ Wb,Wb = Wa.setCell ⟨bo,i,none⟩ (.int .i64 (i : Int)):=⟨_,rfl⟩
    rw [← hWb] at hb
    have HBo:=Lib.hid hb
    have q5:=bc_ HBo.out.hp 5
    have HWB:=Lib.hid hWb
    rw [hWb] at q5
    rw [hWa] at q0 q2 q3 f3 q5
    clear hb hWa hWb
    go_wp2_with ((at_mapUpdate; refine Stq.out ?_))
    unfold Stq
    rw [← HWA.out,← HWB.out]
    clear q0 q2 q3 f3 q5 d0 z0 z1 z2 z3 z4
    have hsz : Wb.heap.size = wr.heap.size + 1:=by rw [HWB.out,HWA.out]; simp
    refine wp_putL rfl _ _ _ rfl (b:=w.heap.size + 1 + 1 + 1) (f:=Lb) rfl (HBo.out.hL.kept (World.grownBy_alloc Wb (.map #[] 0) none) (by simp)) (by have:=HBo.out.hm; omega) (i : Int) rfl (wf64 (by omega) (by omega)) Wb.heap.size (by rw [hsz]; rfl) ?_
    intro W4 hL4 hg4
    have HL4:=Lib.hid ((HBo.out.below (zAa (Below.refl Wb.heap.size Wb) (.map #[] 0))).put FX.out Wb.heap.size (SMap.made Wb) (blk_lt HBo.out.hO) (fun o e => by have:=(HBo.out.hLs o _ e).1.lt; omega) hL4 hg4)
    clear hL4 hg4
    go_wp2_with fail
    go_roundg (gk - 1)
    case measure => have:=HN.out; omega
    case rel => exact ⟨i,(i : Int) - 1,_,_,_,by first | rfl | norm_cast,Lib.hid rfl,by omega,Lib.hid (by have:=HN.out; omega),HL4⟩
   ·by_cases hir : (i : Int) = root
    ·have hoi : rd ol (i : Int) = -1:=by rw [HOI.out,if_neg (by rw [← HK.out]; exact k3),if_pos hir]
     have hb:=HA.out.own FX.out (show i < ns.length by omega)
     rw [hoi] at hb
     have HBo:=Lib.hid (hb.skip (by rw [← HK.out]; exact k3))
     have hib : ((i : Int) == root) = true:=by simpa using hir
     rw [hWa] at q0 q2 q3 f3
     clear hb hWa hir hoi HOI
     go_wp2_with fail
     rw [← HWA.out]
     go_roundg (gk - 1)
     case measure => have:=HN.out; omega
     case rel => exact ⟨i,(i : Int) - 1,_,_,_,by first | rfl | norm_cast,Lib.hid rfl,by omega,Lib.hid (by have:=HN.out; omega),HBo⟩
    ·have hpi:=HPR.out (i : Int) h0i (by have:=HRT.out; omega)
     obtain ⟨pi,hpi0⟩ : ∃ pi,pi = rd ps (i : Int):=⟨_,rfl⟩
     rw [← hpi0] at hpi
     have hvp:=HL.out.hcl pi (by omega) hpi.2
     have hoi : rd ol (i : Int) = rd cl pi:=by rw [HOI.out,if_neg (by rw [← HK.out]; exact k3),if_neg hir,← hpi0,hvp]
     have hb:=(HA.out.below (zAk (Below.refl _ _))).own FX.out (show i < ns.length by omega)
     rw [hoi] at hb
     have qg : Wa.cell? ⟨gp,i,none⟩ = some (.int .i64 pi):=by
      have:=(zAh HA.out.hP ((i : Int).toNat)).trans (HTK.out (i : Int) h0i hin)
      rw [hpi0]
      simpa using this
     have qv : Wa.cell? ⟨bo,pi.toNat,none⟩ = some (.int .i64 (rd cl pi)):=(zAh HA.out.hO pi.toNat).trans (zAO cl pi (by omega) (by rw [HL.out.hlen]; exact hpi.2))
     obtain ⟨vp,hvp0⟩ : ∃ vp,vp = rd cl pi:=⟨_,rfl⟩
     rw [← hvp0] at qv hb
     have HBo:=Lib.hid (hb.skip (by rw [← HK.out]; exact k3))
     have hib : ((i : Int) == root) = false:=by simpa using hir
     have p0 : 0 ≤ pi:=by omega
     have p1 : pi < (ns.length : Int):=hpi.2
     rw [hWa] at q0
     clear hb hir hoi HOI hvp hvp0 hpi0 hpi
     obtain ⟨cv,hcv⟩ : ∃ cv,cv = rd cl (i : Int):=⟨_,rfl⟩
     rw [← hcv] at q3
     clear hcv hWa
     go_wp2_with fail
     rw [← HWA.out]
     refine start_ (n:=17) (S:=fun w' => w'.cell? ⟨w.heap.size + 1 + 1 + 1 + 1,2,none⟩ = some (.slice (some ⟨bo,0,none⟩) ns.length ns.length) ∧ w'.cell? ⟨gp,i,none⟩ = some (.int .i64 pi) ∧ w'.cell? ⟨bo,pi.toNat,none⟩ = some (.int .i64 vp)) (ds:=[16]) #[false,false,false,false,false,false,false,false,false,false,false,false,false,false,false,false,false] (by kernel_rfl) rfl rfl ⟨zAg q2,zAg qg,zAg qv⟩ (fun hHeld => ?_)
     refine pu_ 0 36 ?_
     refine pu_ 1 37 ?_
     refine pu_ 2 38 ?_
     refine pu_ 4 40 ?_
     refine pu_ 5 41 ?_
     refine pu_ 6 42 ?_
     refine pu_ 7 43 ?_
     refine pu_ 9 45 ?_
     refine pu_ 10 46 ?_
     refine pu_ 11 47 ?_
     refine ta_ 3 39 hHeld ?_
     refine ta_ 8 44 hHeld ?_
     refine ta_ 12 48 hHeld ?_
     refine pu_ 13 49 ?_
     refine ta_ 14 50 hHeld ?_
     refine pu_ 15 51 ?_
     refine last_ (i:=16) (N:=none) #[true,true,true,true,true,true,true,true,true,true,true,true,true,true,true,true,true] rfl rfl (by kernel_rfl) (by decide) (fun K hK => ?_)
     refine skip_ (w1:=?_) (by rfl) rfl ?_ ?_
     rotate_left
     ·go_simp
      rfl
     refine hK.out _ _ ?_
     clear hK K
     refine done_ (by kernel_rfl) ?_
     go_wp2_with fail
     go_roundg (gk - 1)
     case measure => have:=HN.out; omega
     case rel => exact ⟨i,(i : Int) - 1,_,_,_,by first | rfl | norm_cast,Lib.hid rfl,by omega,Lib.hid (by have:=HN.out; omega),HBo⟩
  ·obtain rfl : j = 0:=by omega
   obtain rfl : x = -1:=by have:=HX.out; omega
   have L0:=Lib.hid (L2.start HL.out HOL.out.1)
   have d0:=bc_ HL.out.hT 0
   clear HL HX HN
   go_wp2_with fail
   clear d0
   go_loopg [83] (ns.length + 1) (fun kq v83 W => ∃ i : Nat,v83 = .int .i64 i ∧ i ≤ ns.length ∧ Hid (i + kq = ns.length + 1) ∧ Hid (L2 w w.heap.size (w.heap.size + 1) (w.heap.size + 1 + 1) (w.heap.size + 1 + 1 + 1) (w.heap.size + 1 + 1 + 1 + 1) gp bo At ct ns root ol Lb W i))
   case atStart => exact ⟨0,rfl,Nat.zero_le _,Lib.hid (by omega),L0⟩
   case round =>
    obtain ⟨i,rfl,hi,HN,HL⟩:=hrel
    clear L0
    by_cases hlt : i < ns.length
    ·have hin : (i : Int) < ns.length:=by omega
     have h0i : (0 : Int) ≤ i:=by omega
     obtain ⟨ad,A4,c4,eA,z0,z1,z2,z3,z4,l4,g4⟩:=at_T66 (Kd.C_below HC.out HL.out.hB) (i : Int) h0i hin
     have hk0 : kdOf ns i = (rd_T66 ns i).f0:=rfl
     have ht0 : nmOf ns i = (rd_T66 ns i).f3.data.toList:=rfl
     have hsz:=HSZ.out (rd_T66 ns (i : Int)) (zAA ns i h0i hin)
     obtain ⟨k,hk⟩ : ∃ k,k = kdOf ns i:=⟨_,rfl⟩
     have HK:=Lib.hid hk
     rw [← hk0,← hk] at z0
     clear hk0
     obtain ⟨y,hy⟩ : ∃ y,y = rd_T66 ns (i : Int):=⟨_,rfl⟩
     rw [← hy] at z1 z2 z3 z4 ht0 hsz
     obtain ⟨k_,n,at_,tx,kl⟩:=y
     dsimp only at z1 z2 z3 z4 ht0 hsz
     rw [Int.toNat_natCast] at z0 z1 z2 z3 z4
     have HTX:=Lib.hid ht0
     have HSX:=Lib.hid hsz
     have hba : Below wr.heap.size wr (wr.alloc (.cells #[.int .i64 k,.int .i64 n,.int .i64 at_,.string tx,.slice A4 kl.length c4] 66)):=zAa (Below.refl _ _) _
     have xa:=blk_new wr (.cells #[.int .i64 k,.int .i64 n,.int .i64 at_,.string tx,.slice A4 kl.length c4] 66)
     obtain ⟨Wa,hWa⟩ : ∃ Wa,Wa = wr.alloc (.cells #[.int .i64 k,.int .i64 n,.int .i64 at_,.string tx,.slice A4 kl.length c4] 66):=⟨_,rfl⟩
     rw [← hWa] at hba xa
     have HA:=Lib.hid (HL.out.below hba)
     have HWA:=Lib.hid hWa
     have q4:=bc_ xa 3
     cases eA
     clear hk hy l4 g4 hba xa ht0 hsz
     by_cases k2 : k = 2
     ·skip
      subst k2
      have HS:=Lib.hid (HA.out.below (zAk (Below.refl _ _)))
      have q3:=bc_ HA.out.hp 3
      clear hWa
      go_wp2_with fail
      rw [← HWA.out]
      refine start_ (n:=9) (S:=fun w' => w'.cell? ⟨w.heap.size + 1 + 1 + 1 + 1,3,none⟩ = some (.map (some (w.heap.size + 1))) ∧ w'.cell? ⟨wr.heap.size,3,none⟩ = some (.string tx)) (ds:=[8]) #[false,false,false,false,false,false,false,false,false] (by kernel_rfl) rfl rfl ⟨zAg q3,zAg q4⟩ (fun hHeld => ?_)
      refine pu_ 0 92 ?_
      refine pu_ 1 93 ?_
      refine pu_ 2 94 ?_
      refine pu_ 3 95 ?_
      refine pu_ 5 97 ?_
      refine pu_ 7 99 ?_
      refine ta_ 4 96 hHeld ?_
      refine ta_ 6 98 hHeld ?_
      refine last_ (i:=8) (N:=some 100) #[true,true,true,true,true,true,true,true,true] rfl rfl (by kernel_rfl) (by decide) (fun K hK => ?_)
      refine goesV_ Tryz.func63 (by kernel_rfl) rfl #[.map (some (w.heap.size + 1)),.string tx,.int .i64 i] (by rfl) rfl rfl (by rfl) (by simp only [List.map_toArray,List.map_cons,List.map_nil]; rfl) ?_
      with_reducible refine (zCT (w.heap.size + 1) i (glF ns i) tx HSX.out (i : Int) (wf64 (by omega) (by omega)) (by omega) Wa.drew HS.out.hG).mono ?_
      rintro e_ W5 ⟨rfl,hs5,hg5⟩
      refine ⟨_,rfl,?_⟩
      have HL5:=Lib.hid (HS.out.glob FX.out HK.out.symm (by rw [HTX.out]; exact hs5) hg5)
      clear hs5 hg5
      refine hK.out _ _ ?_
      clear hK K
      refine no_ ?_
      refine done_ (by kernel_rfl) ?_
      go_wp2_with fail
      go_roundg (gk - 1)
      case measure => have:=HN.out; omega
      case rel => exact ⟨i + 1,by norm_cast,hlt,Lib.hid (by have:=HN.out; omega),HL5⟩
     by_cases k3 : k = 3
     ·skip
      subst k3
      have HS:=Lib.hid (HA.out.below (zAk (Below.refl _ _)))
      have q3:=bc_ HA.out.hp 4
      clear hWa
      go_wp2_with fail
      rw [← HWA.out]
      refine start_ (n:=9) (S:=fun w' => w'.cell? ⟨w.heap.size + 1 + 1 + 1 + 1,4,none⟩ = some (.map (some (w.heap.size + 1 + 1))) ∧ w'.cell? ⟨wr.heap.size,3,none⟩ = some (.string tx)) (ds:=[8]) #[false,false,false,false,false,false,false,false,false] (by kernel_rfl) rfl rfl ⟨zAg q3,zAg q4⟩ (fun hHeld => ?_)
      refine pu_ 0 103 ?_
      refine pu_ 1 104 ?_
      refine pu_ 2 105 ?_
      refine pu_ 3 106 ?_
      refine pu_ 5 108 ?_
      refine pu_ 7 110 ?_
      refine ta_ 4 107 hHeld ?_
      refine ta_ 6 109 hHeld ?_
      refine last_ (i:=8) (N:=some 111) #[true,true,true,true,true,true,true,true,true] rfl rfl (by kernel_rfl) (by decide) (fun K hK => ?_)
      refine goesV_ Tryz.func63 (by kernel_rfl) rfl #[.map (some (w.heap.size + 1 + 1)),.string tx,.int .i64 i] (by rfl) rfl rfl (by rfl) (by simp only [List.map_toArray,List.map_cons,List.map_nil]; rfl) ?_
      with_reducible refine (zCT (w.heap.size + 1 + 1) i (prF ns i) tx HSX.out (i : Int) (wf64 (by omega) (by omega)) (by omega) Wa.drew HS.out.hR).mono ?_
      rintro e_ W5 ⟨rfl,hs5,hg5⟩
      refine ⟨_,rfl,?_⟩
      have HL5:=Lib.hid (HS.out.proc FX.out HK.out.symm (by rw [HTX.out]; exact hs5) hg5)
      clear hs5 hg5
      refine hK.out _ _ ?_
      clear hK K
      refine no_ ?_
      refine done_ (by kernel_rfl) ?_
      go_wp2_with fail
      go_roundg (gk - 1)
      case measure => have:=HN.out; omega
      case rel => exact ⟨i + 1,by norm_cast,hlt,Lib.hid (by have:=HN.out; omega),HL5⟩
     by_cases k45 : k = 4 ∨ k = 5
     ·skip
      have hob:=(HPRE.out (i : Int) h0i hin (by rw [← HK.out]; exact k45))
      have how:=(HOWN.out.2 (i : Int) h0i hin).resolve_left hob
      obtain ⟨b,hb⟩:=Option.isSome_iff_exists.1 (HL.out.hLd _ how.1 how.2.1 how.2.2)
      have HS:=Lib.hid (HA.out.below (zAk (Below.refl _ _)))
      have lk:=HS.out.hL.look (rd ol (i : Int)) (wf64 (by omega) (by omega))
      rw [hb] at lk
      have q2:=bc_ HA.out.hp 2
      have q5:=bc_ HA.out.hp 5
      have qo : Wa.cell? ⟨bo,i,none⟩ = some (.int .i64 (rd ol (i : Int))):=by
       have:=(zAh HA.out.hO ((i : Int).toNat)).trans (zAO ol (i : Int) h0i (by rw [HOWN.out.1]; exact hin))
       simpa using this
      have HSB:=Lib.hid (HS.out.hLs _ b hb).1
      have HCC:=Lib.hid (fun (W' : World) (h1 : SMap W' b (i + 1) (keepFirst (loF ns ol (rd ol (i : Int)) i) (nmOf ns i) i)) (h2 : Wa.drew.grownBy W' (some b)) => HS.out.loc FX.out (by rw [← HK.out]; exact k45) b hb h1 h2)
      obtain ⟨o,ho⟩ : ∃ o,o = rd ol (i : Int):=⟨_,rfl⟩
      rw [← ho] at HSB HCC lk qo
      clear hWa hob how hb ho
      rcases k45 with k4 | k5
      ·subst k4
       go_wp2_with fail
       rw [← HWA.out]
       refine start_ (n:=17) (S:=fun w' => w'.cell? ⟨w.heap.size + 1 + 1 + 1 + 1,5,none⟩ = some (.map (some (w.heap.size + 1 + 1 + 1))) ∧ w'.cell? ⟨w.heap.size + 1 + 1 + 1 + 1,2,none⟩ = some (.slice (some ⟨bo,0,none⟩) ns.length ns.length) ∧ w'.cell? ⟨bo,i,none⟩ = some (.int .i64 o) ∧ (Instr.lookup 119 (.map (some (w.heap.size + 1 + 1 + 1))) (.int .i64 o) false).run Tryz.prog w' = .ok (.map (some b)) w' ∧ w'.cell? ⟨wr.heap.size,3,none⟩ = some (.string tx)) (ds:=[16]) #[false,false,false,false,false,false,false,false,false,false,false,false,false,false,false,false,false] (by kernel_rfl) rfl rfl ⟨zAg q5,zAg q2,zAg qo,lk,zAg q4⟩ (fun hHeld => ?_)
       refine pu_ 0 115 ?_
       refine pu_ 1 116 ?_
       refine pu_ 2 117 ?_
       refine pu_ 3 118 ?_
       refine pu_ 5 120 ?_
       refine pu_ 6 121 ?_
       refine pu_ 7 122 ?_
       refine pu_ 9 124 ?_
       refine pu_ 13 128 ?_
       refine pu_ 15 130 ?_
       refine ta_ 4 119 hHeld ?_
       refine ta_ 8 123 hHeld ?_
       refine pu_ 10 125 ?_
       refine ta_ 11 126 hHeld ?_
       refine ta_ 12 127 hHeld ?_
       refine ta_ 14 129 hHeld ?_
       refine last_ (i:=16) (N:=some 131) #[true,true,true,true,true,true,true,true,true,true,true,true,true,true,true,true,true] rfl rfl (by kernel_rfl) (by decide) (fun K hK => ?_)
       refine goesV_ Tryz.func63 (by kernel_rfl) rfl #[.map (some b),.string tx,.int .i64 i] (by rfl) rfl rfl (by rfl) (by simp only [List.map_toArray,List.map_cons,List.map_nil]; rfl) ?_
       with_reducible refine (zCT b i (loF ns ol o i) tx HSX.out (i : Int) (wf64 (by omega) (by omega)) (by omega) Wa.drew HSB.out).mono ?_
       rintro e_ W5 ⟨rfl,hs5,hg5⟩
       refine ⟨_,rfl,?_⟩
       have HL5:=Lib.hid (HCC.out W5 (by rw [HTX.out]; exact hs5) hg5)
       clear hs5 hg5
       refine hK.out _ _ ?_
       clear hK K
       refine no_ ?_
       refine done_ (by kernel_rfl) ?_
       go_wp2_with fail
       go_roundg (gk - 1)
       case measure => have:=HN.out; omega
       case rel => exact ⟨i + 1,by norm_cast,hlt,Lib.hid (by have:=HN.out; omega),HL5⟩
      ·subst k5
       go_wp2_with fail
       rw [← HWA.out]
       refine start_ (n:=17) (S:=fun w' => w'.cell? ⟨w.heap.size + 1 + 1 + 1 + 1,5,none⟩ = some (.map (some (w.heap.size + 1 + 1 + 1))) ∧ w'.cell? ⟨w.heap.size + 1 + 1 + 1 + 1,2,none⟩ = some (.slice (some ⟨bo,0,none⟩) ns.length ns.length) ∧ w'.cell? ⟨bo,i,none⟩ = some (.int .i64 o) ∧ (Instr.lookup 119 (.map (some (w.heap.size + 1 + 1 + 1))) (.int .i64 o) false).run Tryz.prog w' = .ok (.map (some b)) w' ∧ w'.cell? ⟨wr.heap.size,3,none⟩ = some (.string tx)) (ds:=[16]) #[false,false,false,false,false,false,false,false,false,false,false,false,false,false,false,false,false] (by kernel_rfl) rfl rfl ⟨zAg q5,zAg q2,zAg qo,lk,zAg q4⟩ (fun hHeld => ?_)
       refine pu_ 0 115 ?_
       refine pu_ 1 116 ?_
       refine pu_ 2 117 ?_
       refine pu_ 3 118 ?_
       refine pu_ 5 120 ?_
       refine pu_ 6 121 ?_
       refine pu_ 7 122 ?_
       refine pu_ 9 124 ?_
       refine pu_ 13 128 ?_
       refine pu_ 15 130 ?_
       refine ta_ 4 119 hHeld ?_
       refine ta_ 8 123 hHeld ?_
       refine pu_ 10 125 ?_
       refine ta_ 11 126 hHeld ?_
       refine ta_ 12 127 hHeld ?_
       refine ta_ 14 129 hHeld ?_
       refine last_ (i:=16) (N:=some 131) #[true,true,true,true,true,true,true,true,true,true,true,true,true,true,true,true,true] rfl rfl (by kernel_rfl) (by decide) (fun K hK => ?_)
       refine goesV_ Tryz.func63 (by kernel_rfl) rfl #[.map (some b),.string tx,.int .i64 i] (by rfl) rfl rfl (by rfl) (by simp only [List.map_toArray,List.map_cons,List.map_nil]; rfl) ?_
       with_reducible refine (zCT b i (loF ns ol o i) tx HSX.out (i : Int) (wf64 (by omega) (by omega)) (by omega) Wa.drew HSB.out).mono ?_
       rintro e_ W5 ⟨rfl,hs5,hg5⟩
       refine ⟨_,rfl,?_⟩
       have HL5:=Lib.hid (HCC.out W5 (by rw [HTX.out]; exact hs5) hg5)
       clear hs5 hg5
       refine hK.out _ _ ?_
       clear hK K
       refine no_ ?_
       refine done_ (by kernel_rfl) ?_
       go_wp2_with fail
       go_roundg (gk - 1)
       case measure => have:=HN.out; omega
       case rel => exact ⟨i + 1,by norm_cast,hlt,Lib.hid (by have:=HN.out; omega),HL5⟩
     have k4 : k ≠ 4:=fun e => k45 (.inl e)
     have k5 : k ≠ 5:=fun e => k45 (.inr e)
     have HL5:=Lib.hid (HA.out.skip (by rw [← HK.out]; exact k2) (by rw [← HK.out]; exact k3) (by rw [← HK.out]; exact k4) (by rw [← HK.out]; exact k5))
     clear k45 hWa
     go_wp2_with fail
     rw [← HWA.out]
     go_roundg (gk - 1)
     case measure => have:=HN.out; omega
     case rel => exact ⟨i + 1,by norm_cast,hlt,Lib.hid (by have:=HN.out; omega),HL5⟩
    ·obtain rfl : i = ns.length:=by omega
     go_wp2_with fail
     go_ret
     exact ⟨_,rfl,HL.out.done HOWN.out HC.out hct hn HSZ.out,HL.out.hB⟩
end Go.Proofs.YtkhlfdcjgooogaaGreat.P
