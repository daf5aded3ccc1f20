import Derived.Test.YtkhlfdcjgooogaaGreatWMore
import Derived.Test.YtkhlfdcjgooogaaGreatTyL
set_option maxRecDepth 100000
set_option maxHeartbeats 16000000
set_option linter.unusedVariables false
set_option linter.unusedSimpArgs false
set_option linter.unusedSectionVars false
namespace Go.Proofs.YtkhlfdcjgooogaaGreat.P
open Go.RowKit Go.Proofs.YtkhlfdcjgooogaaGreatW.PrintWords Go.Proofs.YtkhlfdcjgooogaaGreatW.PrintLast Go.Proofs.YtkhlfdcjgooogaaGreatW.PrintMore
theorem check_10 (p : Nat) (At : Option Addr) (ct : Nat) (ns : List S66) (root : Int) (ol : List Int) (q : Int) (h0 : 0 ≤ q) (h1 : q < ns.length) (hk : kdOf ns q = 10) (hKI : KidsIn ns) (hp : 0 < (rd_T66 ns q).f4.length) (w : World) (hS : Sc p At ct ns root ol w) :
  Calls Tryz.prog 34 #[.pointer (some ⟨p,0,none⟩),.int .i64 q] w fun e w' => e = .returned (.int .i64 (if allF ns ol 1 ((rd_T66 ns q).f4.drop 1) = true then 0 else 5)) ∧ Below w.heap.size w w':=by
 have hmf:=@hmf_ Tryz.prog
 have hkq:=hKI (rd_T66 ns q) (zAA ns q h0 h1)
 have hsz:=KidsIn.size hS h0 h1
 have hbx : Below w.heap.size w (w.alloc (.cells #[.pointer (some ⟨p,0,none⟩)] 87)):=zAa (Below.refl _ _) _
 obtain ⟨Wb,hWb⟩ : ∃ W_,W_ = w.alloc (.cells #[.pointer (some ⟨p,0,none⟩)] 87):=⟨_,rfl⟩
 rw [← hWb] at hbx
 obtain ⟨bo,g,r0,l,Lb,h⟩:=hS.below hbx
 have cp0:=bc_ h.hp 0
 have cb : Wb.cell? ⟨w.heap.size,0,none⟩ = some (.pointer (some ⟨p,0,none⟩)):=by rw [hWb]; exact (zAh (heap_alloc_new w _) 0).trans rfl
 obtain ⟨ad,A4,c4,eA,z0,z1,z2,z3,z4,l4,g4⟩:=at_T66 h.hC q h0 h1
 have e0:=eq_true h0
 have e1:=eq_true h1
 have hk0 : kdOf ns q = (rd_T66 ns q).f0:=rfl
 have ht0 : nmOf ns q = (rd_T66 ns q).f3.data.toList:=rfl
 obtain ⟨x,hx⟩ : ∃ x,x = rd_T66 ns q:=⟨_,rfl⟩
 rw [← hx] at z0 z1 z2 z3 z4 l4 g4 hkq hsz hk0 ht0 hp ⊢
 obtain ⟨k,n,at_,tx,kl⟩:=x
 dsimp only at z0 z1 z2 z3 z4 l4 g4 hkq hsz hk0 ht0 hp ⊢
 rw [hk] at hk0
 subst hk0
 have x3:=heap_alloc_new w (.cells #[.pointer (some ⟨p,0,none⟩)] 87)
 rw [← hWb] at x3
 have hb0 : Below w.heap.size w (Wb.alloc (.cells #[.int .i64 10,.int .i64 n,.int .i64 at_,.string tx,.slice A4 kl.length c4] 66)):=zAa hbx _
 have hbC : Below Wb.heap.size Wb (Wb.alloc (.cells #[.int .i64 10,.int .i64 n,.int .i64 at_,.string tx,.slice A4 kl.length c4] 66)):=zAa (Below.refl _ _) _
 replace x3:=zAj x3 (.cells #[.int .i64 10,.int .i64 n,.int .i64 at_,.string tx,.slice A4 kl.length c4] 66)
 have x5:=heap_alloc_new Wb (.cells #[.int .i64 10,.int .i64 n,.int .i64 at_,.string tx,.slice A4 kl.length c4] 66)
 rw [show Wb.heap.size = w.heap.size + 1 from by rw [hWb]; simp] at x5
 have HCW:=Lib.hid (fun (w' : World) (hb : Below (Wb.alloc (.cells #[.int .i64 10,.int .i64 n,.int .i64 at_,.string tx,.slice A4 kl.length c4] 66)).heap.size (Wb.alloc (.cells #[.int .i64 10,.int .i64 n,.int .i64 at_,.string tx,.slice A4 kl.length c4] 66)) w') => Kd.C_below (Kd.C_below g4 hbC) hb)
 obtain ⟨W0,hW0⟩ : ∃ W_,W_ = Wb.alloc (.cells #[.int .i64 10,.int .i64 n,.int .i64 at_,.string tx,.slice A4 kl.length c4] 66):=⟨_,rfl⟩
 rw [← hW0] at hb0 x3 x5 HCW
 have HB0:=Lib.hid hb0
 have X30:=Lib.hid x3
 have X50:=Lib.hid x5
 have HW0:=Lib.hid hW0
 have HS:=Lib.hid (fun (w' : World) (hb : Below w.heap.size w w') => hS.below hb)
 have HKQ:=Lib.hid hkq
 have hkl:=hkq.2
 have HSZ:=Lib.hid hsz
 have HT0:=Lib.hid ht0
 have HKI:=Lib.hid hKI
 cases eA
 clear h hb0 hbC x3 x5 hW0 hbx g4 hkq hsz hx hKI hk hS
 obtain ⟨i3,hi3,hz3⟩:=Option.map_eq_some_iff.1 info3
 simp only [Prod.mk.injEq] at hz3
 obtain ⟨A',hcut,hcr⟩:=zCh (P:=Tryz.prog) (Value.int .i64) 0 64 3 .i64 Tryz.underlying64 hi3 hz3.2.1 A4 kl.length c4 1 (by omega)
 have hcut1 : ∀ W,(Instr.slice 64 (.slice A4 kl.length c4) (some (.int .i64 1)) none none).run Tryz.prog W = .ok (.slice A' (kl.length - 1) (c4 - 1)) W:=hcut
 have hkin : ∀ k ∈ kl.drop 1,0 ≤ k ∧ k < ns.length:=fun k h => HKQ.out.1 k (List.mem_of_mem_drop h)
 have hlen : (kl.drop 1).length = kl.length - 1:=List.length_drop
 have hkln : (kl.drop 1).length ≤ 4000:=by omega
 have hkc : (kl.drop 1).length ≤ c4 - 1:=by omega
 have hCn : ∀ w',Below W0.heap.size W0 w' → Kd.C (Kd.int .i64) w' A' (kl.drop 1).length (kl.drop 1):=fun w' hb => by
  have hr:=hcr w' kl l4 (Kd.zBL (d:=0) (HCW.out w' hb))
  rw [← List.length_drop] at hr
  exact Kd.zBP hr
 clear hcut hcr hi3 hz3
 have HA:=Lib.hid (fun (w' : World) (hb : Below w.heap.size w w') (hC : Kd.C (Kd.int .i64) w' A' (kl.drop 1).length (kl.drop 1)) => all_is p (some ad) ct ns root ol 1 A' (c4 - 1) (kl.drop 1) hkin hkln w' (HS.out w' hb) hC hkc)
 obtain ⟨ob,hob⟩ : ∃ ob,ob = allF ns ol 1 (kl.drop 1):=⟨_,rfl⟩
 rw [← hob] at HA ⊢
 clear hob
 rw [hlen] at HA
 rw [hlen] at hCn
 have HCN:=Lib.hid hCn
 obtain ⟨R,hR⟩ : ∃ R : Int,R = if ob = true then 0 else 5:=⟨_,rfl⟩
 rw [← hR]
 have HR:=Lib.hid hR
 clear hR hkin hkln hkc hlen hCn
 subst hWb
 go_enter Tryz.func34,Tryz.ntmps34
 go_wp2_with fail
 rw [← HW0.out]
 clear z0 z1 z2 z3 z4 cp0 cb e0 e1
 have c30:=bc_ X30.out 0
 have c540:=bc_ X50.out 4
 refine start_ (n:=7) (S:=fun w' => w'.cell? ⟨w.heap.size,0,none⟩ = some (.pointer (some ⟨p,0,none⟩)) ∧ w'.cell? ⟨w.heap.size + 1,4,none⟩ = some (.slice A4 kl.length c4)) (ds:=[]) #[false,false,false,false,false,false,false] (by kernel_rfl) rfl rfl ⟨zAg c30,zAg c540⟩ (fun hHeld => ?_)
 refine pu_ 1 91 ?_
 refine ta_ 0 90 hHeld ?_
 refine ta_ 2 92 hHeld ?_
 refine pu_ 3 93 ?_
 refine on_ 4 (some 94) (fun K hK => ?_)
 refine gs_ Tryz.func70 #[.pointer (some ⟨p,0,none⟩),.slice A' (kl.length - 1) (c4 - 1),.int .i64 1] ?_
 with_reducible refine (HA.out _ (zAk HB0.out) (HCN.out _ (zAk (Below.refl _ _)))).mono ?_
 rintro e_ W1 ⟨rfl,hb_⟩
 refine ⟨_,rfl,?_⟩
 have HB1:=Lib.hid (zAd (zAk (HB0.out)) hb_)
 have X31:=Lib.hid (zAe (zAl (X30.out)) hb_)
 have X51:=Lib.hid (zAe (zAl (X50.out)) hb_)
 clear hb_
 have c31:=bc_ X31.out 0
 have c541:=bc_ X51.out 4
 refine hK.out _ _ ⟨c31,c541⟩ (fun hHeld => ?_)
 clear hK K
 refine no_ ?_
 refine on_ 5 (some 95) (fun K hK => ?_)
 refine gs_ Tryz.func72 #[.bool ob] ?_
 with_reducible refine (told_is ob _).mono ?_
 rintro e_ w_ ⟨he_,rfl⟩
 rw [← HR.out] at he_
 subst he_
 refine ⟨_,rfl,?_⟩
 refine hK.out _ _ ⟨c31,c541⟩ (fun hHeld => ?_)
 clear hK K
 refine no_ ?_
 refine pu_ 6 4 ?_
 refine done_ (by kernel_rfl) ?_
 go_wp2_with fail
 go_ret
 exact ⟨rfl,HB1.out⟩
theorem check_15 (p : Nat) (At : Option Addr) (ct : Nat) (ns : List S66) (root : Int) (ol : List Int) (q : Int) (h0 : 0 ≤ q) (h1 : q < ns.length) (hk : kdOf ns q = 15) (hKI : KidsIn ns) (w : World) (hS : Sc p At ct ns root ol w) :
  Calls Tryz.prog 34 #[.pointer (some ⟨p,0,none⟩),.int .i64 q] w fun e w' => e = .returned (.int .i64 (if allF ns ol 1 (rd_T66 ns q).f4 = true then 0 else 5)) ∧ Below w.heap.size w w':=by
 have hmf:=@hmf_ Tryz.prog
 have hkq:=hKI (rd_T66 ns q) (zAA ns q h0 h1)
 have hsz:=KidsIn.size hS h0 h1
 have hbx : Below w.heap.size w (w.alloc (.cells #[.pointer (some ⟨p,0,none⟩)] 87)):=zAa (Below.refl _ _) _
 obtain ⟨Wb,hWb⟩ : ∃ W_,W_ = w.alloc (.cells #[.pointer (some ⟨p,0,none⟩)] 87):=⟨_,rfl⟩
 rw [← hWb] at hbx
 obtain ⟨bo,g,r0,l,Lb,h⟩:=hS.below hbx
 have cp0:=bc_ h.hp 0
 have cb : Wb.cell? ⟨w.heap.size,0,none⟩ = some (.pointer (some ⟨p,0,none⟩)):=by rw [hWb]; exact (zAh (heap_alloc_new w _) 0).trans rfl
 obtain ⟨ad,A4,c4,eA,z0,z1,z2,z3,z4,l4,g4⟩:=at_T66 h.hC q h0 h1
 have e0:=eq_true h0
 have e1:=eq_true h1
 have hk0 : kdOf ns q = (rd_T66 ns q).f0:=rfl
 have ht0 : nmOf ns q = (rd_T66 ns q).f3.data.toList:=rfl
 obtain ⟨x,hx⟩ : ∃ x,x = rd_T66 ns q:=⟨_,rfl⟩
 rw [← hx] at z0 z1 z2 z3 z4 l4 g4 hkq hsz hk0 ht0 ⊢
 obtain ⟨k,n,at_,tx,kl⟩:=x
 dsimp only at z0 z1 z2 z3 z4 l4 g4 hkq hsz hk0 ht0 ⊢
 rw [hk] at hk0
 subst hk0
 have x3:=heap_alloc_new w (.cells #[.pointer (some ⟨p,0,none⟩)] 87)
 rw [← hWb] at x3
 have hb0 : Below w.heap.size w (Wb.alloc (.cells #[.int .i64 15,.int .i64 n,.int .i64 at_,.string tx,.slice A4 kl.length c4] 66)):=zAa hbx _
 have hbC : Below Wb.heap.size Wb (Wb.alloc (.cells #[.int .i64 15,.int .i64 n,.int .i64 at_,.string tx,.slice A4 kl.length c4] 66)):=zAa (Below.refl _ _) _
 replace x3:=zAj x3 (.cells #[.int .i64 15,.int .i64 n,.int .i64 at_,.string tx,.slice A4 kl.length c4] 66)
 have x5:=heap_alloc_new Wb (.cells #[.int .i64 15,.int .i64 n,.int .i64 at_,.string tx,.slice A4 kl.length c4] 66)
 rw [show Wb.heap.size = w.heap.size + 1 from by rw [hWb]; simp] at x5
 have HCW:=Lib.hid (fun (w' : World) (hb : Below (Wb.alloc (.cells #[.int .i64 15,.int .i64 n,.int .i64 at_,.string tx,.slice A4 kl.length c4] 66)).heap.size (Wb.alloc (.cells #[.int .i64 15,.int .i64 n,.int .i64 at_,.string tx,.slice A4 kl.length c4] 66)) w') => Kd.C_below (Kd.C_below g4 hbC) hb)
 obtain ⟨W0,hW0⟩ : ∃ W_,W_ = Wb.alloc (.cells #[.int .i64 15,.int .i64 n,.int .i64 at_,.string tx,.slice A4 kl.length c4] 66):=⟨_,rfl⟩
 rw [← hW0] at hb0 x3 x5 HCW
 have HB0:=Lib.hid hb0
 have X30:=Lib.hid x3
 have X50:=Lib.hid x5
 have HW0:=Lib.hid hW0
 have HS:=Lib.hid (fun (w' : World) (hb : Below w.heap.size w w') => hS.below hb)
 have HKQ:=Lib.hid hkq
 have hkl:=hkq.2
 have HSZ:=Lib.hid hsz
 have HT0:=Lib.hid ht0
 have HKI:=Lib.hid hKI
 cases eA
 clear h hb0 hbC x3 x5 hW0 hbx g4 hkq hsz hx hKI hk hS
 have hkin : ∀ k ∈ kl,0 ≤ k ∧ k < ns.length:=HKQ.out.1
 have hlen : kl.length = kl.length:=rfl
 have hkln : kl.length ≤ 4000:=hkl
 have hkc : kl.length ≤ c4:=l4
 have hCn : ∀ w',Below W0.heap.size W0 w' → Kd.C (Kd.int .i64) w' A4 kl.length kl:=HCW.out
 have HA:=Lib.hid (fun (w' : World) (hb : Below w.heap.size w w') (hC : Kd.C (Kd.int .i64) w' A4 (kl).length (kl)) => all_is p (some ad) ct ns root ol 1 A4 (c4) (kl) hkin hkln w' (HS.out w' hb) hC hkc)
 obtain ⟨ob,hob⟩ : ∃ ob,ob = allF ns ol 1 (kl):=⟨_,rfl⟩
 rw [← hob] at HA ⊢
 clear hob
 rw [hlen] at HA
 rw [hlen] at hCn
 have HCN:=Lib.hid hCn
 obtain ⟨R,hR⟩ : ∃ R : Int,R = if ob = true then 0 else 5:=⟨_,rfl⟩
 rw [← hR]
 have HR:=Lib.hid hR
 clear hR hkin hkln hkc hlen hCn
 subst hWb
 go_enter Tryz.func34,Tryz.ntmps34
 go_wp2_with fail
 rw [← HW0.out]
 clear z0 z1 z2 z3 z4 cp0 cb e0 e1
 refine (HA.out W0 HB0.out (HCN.out W0 (Below.refl _ _))).mono ?_
 rintro e_ W1 ⟨rfl,hb_⟩
 have HB1:=Lib.hid (zAd (HB0.out) hb_)
 have X31:=Lib.hid (zAe (X30.out) hb_)
 have X51:=Lib.hid (zAe (X50.out) hb_)
 clear hb_
 go_wp2_with fail
 refine (told_is ob _).mono ?_
 rintro e_ w_ ⟨he_,rfl⟩
 rw [← HR.out] at he_
 subst he_
 go_wp2_with fail
 go_ret
 exact ⟨rfl,HB1.out⟩
theorem check_11 (p : Nat) (At : Option Addr) (ct : Nat) (ns : List S66) (root : Int) (ol : List Int) (q : Int) (h0 : 0 ≤ q) (h1 : q < ns.length) (hk : kdOf ns q = 11) (hKI : KidsIn ns) (hp : 0 < (rd_T66 ns q).f4.length) (w : World) (hS : Sc p At ct ns root ol w) :
  Calls Tryz.prog 34 #[.pointer (some ⟨p,0,none⟩),.int .i64 q] w fun e w' => e = .returned (.int .i64 (if allF ns ol 2 ((rd_T66 ns q).f4.take 1) = true then 0 else 5)) ∧ Below w.heap.size w w':=by
 have hmf:=@hmf_ Tryz.prog
 have hkq:=hKI (rd_T66 ns q) (zAA ns q h0 h1)
 have hsz:=KidsIn.size hS h0 h1
 have hbx : Below w.heap.size w (w.alloc (.cells #[.pointer (some ⟨p,0,none⟩)] 87)):=zAa (Below.refl _ _) _
 obtain ⟨Wb,hWb⟩ : ∃ W_,W_ = w.alloc (.cells #[.pointer (some ⟨p,0,none⟩)] 87):=⟨_,rfl⟩
 rw [← hWb] at hbx
 obtain ⟨bo,g,r0,l,Lb,h⟩:=hS.below hbx
 have cp0:=bc_ h.hp 0
 have cb : Wb.cell? ⟨w.heap.size,0,none⟩ = some (.pointer (some ⟨p,0,none⟩)):=by rw [hWb]; exact (zAh (heap_alloc_new w _) 0).trans rfl
 obtain ⟨ad,A4,c4,eA,z0,z1,z2,z3,z4,l4,g4⟩:=at_T66 h.hC q h0 h1
 have e0:=eq_true h0
 have e1:=eq_true h1
 have hk0 : kdOf ns q = (rd_T66 ns q).f0:=rfl
 have ht0 : nmOf ns q = (rd_T66 ns q).f3.data.toList:=rfl
 obtain ⟨x,hx⟩ : ∃ x,x = rd_T66 ns q:=⟨_,rfl⟩
 rw [← hx] at z0 z1 z2 z3 z4 l4 g4 hkq hsz hk0 ht0 hp ⊢
 obtain ⟨k,n,at_,tx,kl⟩:=x
 dsimp only at z0 z1 z2 z3 z4 l4 g4 hkq hsz hk0 ht0 hp ⊢
 rw [hk] at hk0
 subst hk0
 have x3:=heap_alloc_new w (.cells #[.pointer (some ⟨p,0,none⟩)] 87)
 rw [← hWb] at x3
 have hb0 : Below w.heap.size w (Wb.alloc (.cells #[.int .i64 11,.int .i64 n,.int .i64 at_,.string tx,.slice A4 kl.length c4] 66)):=zAa hbx _
 have hbC : Below Wb.heap.size Wb (Wb.alloc (.cells #[.int .i64 11,.int .i64 n,.int .i64 at_,.string tx,.slice A4 kl.length c4] 66)):=zAa (Below.refl _ _) _
 replace x3:=zAj x3 (.cells #[.int .i64 11,.int .i64 n,.int .i64 at_,.string tx,.slice A4 kl.length c4] 66)
 have x5:=heap_alloc_new Wb (.cells #[.int .i64 11,.int .i64 n,.int .i64 at_,.string tx,.slice A4 kl.length c4] 66)
 rw [show Wb.heap.size = w.heap.size + 1 from by rw [hWb]; simp] at x5
 have HCW:=Lib.hid (fun (w' : World) (hb : Below (Wb.alloc (.cells #[.int .i64 11,.int .i64 n,.int .i64 at_,.string tx,.slice A4 kl.length c4] 66)).heap.size (Wb.alloc (.cells #[.int .i64 11,.int .i64 n,.int .i64 at_,.string tx,.slice A4 kl.length c4] 66)) w') => Kd.C_below (Kd.C_below g4 hbC) hb)
 obtain ⟨W0,hW0⟩ : ∃ W_,W_ = Wb.alloc (.cells #[.int .i64 11,.int .i64 n,.int .i64 at_,.string tx,.slice A4 kl.length c4] 66):=⟨_,rfl⟩
 rw [← hW0] at hb0 x3 x5 HCW
 have HB0:=Lib.hid hb0
 have X30:=Lib.hid x3
 have X50:=Lib.hid x5
 have HW0:=Lib.hid hW0
 have HS:=Lib.hid (fun (w' : World) (hb : Below w.heap.size w w') => hS.below hb)
 have HKQ:=Lib.hid hkq
 have hkl:=hkq.2
 have HSZ:=Lib.hid hsz
 have HT0:=Lib.hid ht0
 have HKI:=Lib.hid hKI
 cases eA
 clear h hb0 hbC x3 x5 hW0 hbx g4 hkq hsz hx hKI hk hS
 obtain ⟨i3,hi3,hz3⟩:=Option.map_eq_some_iff.1 info3
 simp only [Prod.mk.injEq] at hz3
 have hcut1 : ∀ W,(Instr.slice 64 (.slice A4 kl.length c4) none (some (.int .i64 1)) none).run Tryz.prog W = .ok (.slice A4 1 c4) W:=cut_to 64 3 .i64 Tryz.underlying64 hi3 A4 kl.length c4 1 (by decide) (by omega) l4
 have hkin : ∀ k ∈ kl.take 1,0 ≤ k ∧ k < ns.length:=fun k h => HKQ.out.1 k (List.mem_of_mem_take h)
 have hlen : (kl.take 1).length = 1:=by simp; omega
 have hkln : (kl.take 1).length ≤ 4000:=by omega
 have hkc : (kl.take 1).length ≤ c4:=by omega
 have hCn : ∀ w',Below W0.heap.size W0 w' → Kd.C (Kd.int .i64) w' A4 (kl.take 1).length (kl.take 1):=fun w' hb => Kd.C_take (HCW.out w' hb) (by omega)
 clear hi3 hz3
 have HA:=Lib.hid (fun (w' : World) (hb : Below w.heap.size w w') (hC : Kd.C (Kd.int .i64) w' A4 (kl.take 1).length (kl.take 1)) => all_is p (some ad) ct ns root ol 2 A4 (c4) (kl.take 1) hkin hkln w' (HS.out w' hb) hC hkc)
 obtain ⟨ob,hob⟩ : ∃ ob,ob = allF ns ol 2 (kl.take 1):=⟨_,rfl⟩
 rw [← hob] at HA ⊢
 clear hob
 rw [hlen] at HA
 rw [hlen] at hCn
 have HCN:=Lib.hid hCn
 obtain ⟨R,hR⟩ : ∃ R : Int,R = if ob = true then 0 else 5:=⟨_,rfl⟩
 rw [← hR]
 have HR:=Lib.hid hR
 clear hR hkin hkln hkc hlen hCn
 subst hWb
 go_enter Tryz.func34,Tryz.ntmps34
 go_wp2_with fail
 rw [← HW0.out]
 clear z0 z1 z2 z3 z4 cp0 cb e0 e1
 have c30:=bc_ X30.out 0
 have c540:=bc_ X50.out 4
 refine start_ (n:=7) (S:=fun w' => w'.cell? ⟨w.heap.size,0,none⟩ = some (.pointer (some ⟨p,0,none⟩)) ∧ w'.cell? ⟨w.heap.size + 1,4,none⟩ = some (.slice A4 kl.length c4)) (ds:=[]) #[false,false,false,false,false,false,false] (by kernel_rfl) rfl rfl ⟨zAg c30,zAg c540⟩ (fun hHeld => ?_)
 refine pu_ 1 107 ?_
 refine ta_ 0 106 hHeld ?_
 refine ta_ 2 108 hHeld ?_
 refine pu_ 3 109 ?_
 refine on_ 4 (some 110) (fun K hK => ?_)
 refine gs_ Tryz.func70 #[.pointer (some ⟨p,0,none⟩),.slice A4 (1) (c4),.int .i64 2] ?_
 with_reducible refine (HA.out _ (zAk HB0.out) (HCN.out _ (zAk (Below.refl _ _)))).mono ?_
 rintro e_ W1 ⟨rfl,hb_⟩
 refine ⟨_,rfl,?_⟩
 have HB1:=Lib.hid (zAd (zAk (HB0.out)) hb_)
 have X31:=Lib.hid (zAe (zAl (X30.out)) hb_)
 have X51:=Lib.hid (zAe (zAl (X50.out)) hb_)
 clear hb_
 have c31:=bc_ X31.out 0
 have c541:=bc_ X51.out 4
 refine hK.out _ _ ⟨c31,c541⟩ (fun hHeld => ?_)
 clear hK K
 refine no_ ?_
 refine on_ 5 (some 111) (fun K hK => ?_)
 refine gs_ Tryz.func72 #[.bool ob] ?_
 with_reducible refine (told_is ob _).mono ?_
 rintro e_ w_ ⟨he_,rfl⟩
 rw [← HR.out] at he_
 subst he_
 refine ⟨_,rfl,?_⟩
 refine hK.out _ _ ⟨c31,c541⟩ (fun hHeld => ?_)
 clear hK K
 refine no_ ?_
 refine pu_ 6 4 ?_
 refine done_ (by kernel_rfl) ?_
 go_wp2_with fail
 go_ret
 exact ⟨rfl,HB1.out⟩
theorem check_12 (p : Nat) (At : Option Addr) (ct : Nat) (ns : List S66) (root : Int) (ol : List Int) (q : Int) (h0 : 0 ≤ q) (h1 : q < ns.length) (hk : kdOf ns q = 12) (hKI : KidsIn ns) (hp : 0 < (rd_T66 ns q).f4.length) (w : World) (hS : Sc p At ct ns root ol w) :
  Calls Tryz.prog 34 #[.pointer (some ⟨p,0,none⟩),.int .i64 q] w fun e w' => e = .returned (.int .i64 (if allF ns ol 2 ((rd_T66 ns q).f4.take 1) = true then 0 else 5)) ∧ Below w.heap.size w w':=by
 have hmf:=@hmf_ Tryz.prog
 have hkq:=hKI (rd_T66 ns q) (zAA ns q h0 h1)
 have hsz:=KidsIn.size hS h0 h1
 have hbx : Below w.heap.size w (w.alloc (.cells #[.pointer (some ⟨p,0,none⟩)] 87)):=zAa (Below.refl _ _) _
 obtain ⟨Wb,hWb⟩ : ∃ W_,W_ = w.alloc (.cells #[.pointer (some ⟨p,0,none⟩)] 87):=⟨_,rfl⟩
 rw [← hWb] at hbx
 obtain ⟨bo,g,r0,l,Lb,h⟩:=hS.below hbx
 have cp0:=bc_ h.hp 0
 have cb : Wb.cell? ⟨w.heap.size,0,none⟩ = some (.pointer (some ⟨p,0,none⟩)):=by rw [hWb]; exact (zAh (heap_alloc_new w _) 0).trans rfl
 obtain ⟨ad,A4,c4,eA,z0,z1,z2,z3,z4,l4,g4⟩:=at_T66 h.hC q h0 h1
 have e0:=eq_true h0
 have e1:=eq_true h1
 have hk0 : kdOf ns q = (rd_T66 ns q).f0:=rfl
 have ht0 : nmOf ns q = (rd_T66 ns q).f3.data.toList:=rfl
 obtain ⟨x,hx⟩ : ∃ x,x = rd_T66 ns q:=⟨_,rfl⟩
 rw [← hx] at z0 z1 z2 z3 z4 l4 g4 hkq hsz hk0 ht0 hp ⊢
 obtain ⟨k,n,at_,tx,kl⟩:=x
 dsimp only at z0 z1 z2 z3 z4 l4 g4 hkq hsz hk0 ht0 hp ⊢
 rw [hk] at hk0
 subst hk0
 have x3:=heap_alloc_new w (.cells #[.pointer (some ⟨p,0,none⟩)] 87)
 rw [← hWb] at x3
 have hb0 : Below w.heap.size w (Wb.alloc (.cells #[.int .i64 12,.int .i64 n,.int .i64 at_,.string tx,.slice A4 kl.length c4] 66)):=zAa hbx _
 have hbC : Below Wb.heap.size Wb (Wb.alloc (.cells #[.int .i64 12,.int .i64 n,.int .i64 at_,.string tx,.slice A4 kl.length c4] 66)):=zAa (Below.refl _ _) _
 replace x3:=zAj x3 (.cells #[.int .i64 12,.int .i64 n,.int .i64 at_,.string tx,.slice A4 kl.length c4] 66)
 have x5:=heap_alloc_new Wb (.cells #[.int .i64 12,.int .i64 n,.int .i64 at_,.string tx,.slice A4 kl.length c4] 66)
 rw [show Wb.heap.size = w.heap.size + 1 from by rw [hWb]; simp] at x5
 have HCW:=Lib.hid (fun (w' : World) (hb : Below (Wb.alloc (.cells #[.int .i64 12,.int .i64 n,.int .i64 at_,.string tx,.slice A4 kl.length c4] 66)).heap.size (Wb.alloc (.cells #[.int .i64 12,.int .i64 n,.int .i64 at_,.string tx,.slice A4 kl.length c4] 66)) w') => Kd.C_below (Kd.C_below g4 hbC) hb)
 obtain ⟨W0,hW0⟩ : ∃ W_,W_ = Wb.alloc (.cells #[.int .i64 12,.int .i64 n,.int .i64 at_,.string tx,.slice A4 kl.length c4] 66):=⟨_,rfl⟩
 rw [← hW0] at hb0 x3 x5 HCW
 have HB0:=Lib.hid hb0
 have X30:=Lib.hid x3
 have X50:=Lib.hid x5
 have HW0:=Lib.hid hW0
 have HS:=Lib.hid (fun (w' : World) (hb : Below w.heap.size w w') => hS.below hb)
 have HKQ:=Lib.hid hkq
 have hkl:=hkq.2
 have HSZ:=Lib.hid hsz
 have HT0:=Lib.hid ht0
 have HKI:=Lib.hid hKI
 cases eA
 clear h hb0 hbC x3 x5 hW0 hbx g4 hkq hsz hx hKI hk hS
 obtain ⟨i3,hi3,hz3⟩:=Option.map_eq_some_iff.1 info3
 simp only [Prod.mk.injEq] at hz3
 have hcut1 : ∀ W,(Instr.slice 64 (.slice A4 kl.length c4) none (some (.int .i64 1)) none).run Tryz.prog W = .ok (.slice A4 1 c4) W:=cut_to 64 3 .i64 Tryz.underlying64 hi3 A4 kl.length c4 1 (by decide) (by omega) l4
 have hkin : ∀ k ∈ kl.take 1,0 ≤ k ∧ k < ns.length:=fun k h => HKQ.out.1 k (List.mem_of_mem_take h)
 have hlen : (kl.take 1).length = 1:=by simp; omega
 have hkln : (kl.take 1).length ≤ 4000:=by omega
 have hkc : (kl.take 1).length ≤ c4:=by omega
 have hCn : ∀ w',Below W0.heap.size W0 w' → Kd.C (Kd.int .i64) w' A4 (kl.take 1).length (kl.take 1):=fun w' hb => Kd.C_take (HCW.out w' hb) (by omega)
 clear hi3 hz3
 have HA:=Lib.hid (fun (w' : World) (hb : Below w.heap.size w w') (hC : Kd.C (Kd.int .i64) w' A4 (kl.take 1).length (kl.take 1)) => all_is p (some ad) ct ns root ol 2 A4 (c4) (kl.take 1) hkin hkln w' (HS.out w' hb) hC hkc)
 obtain ⟨ob,hob⟩ : ∃ ob,ob = allF ns ol 2 (kl.take 1):=⟨_,rfl⟩
 rw [← hob] at HA ⊢
 clear hob
 rw [hlen] at HA
 rw [hlen] at hCn
 have HCN:=Lib.hid hCn
 obtain ⟨R,hR⟩ : ∃ R : Int,R = if ob = true then 0 else 5:=⟨_,rfl⟩
 rw [← hR]
 have HR:=Lib.hid hR
 clear hR hkin hkln hkc hlen hCn
 subst hWb
 go_enter Tryz.func34,Tryz.ntmps34
 go_wp2_with fail
 rw [← HW0.out]
 clear z0 z1 z2 z3 z4 cp0 cb e0 e1
 have c30:=bc_ X30.out 0
 have c540:=bc_ X50.out 4
 refine start_ (n:=7) (S:=fun w' => w'.cell? ⟨w.heap.size,0,none⟩ = some (.pointer (some ⟨p,0,none⟩)) ∧ w'.cell? ⟨w.heap.size + 1,4,none⟩ = some (.slice A4 kl.length c4)) (ds:=[]) #[false,false,false,false,false,false,false] (by kernel_rfl) rfl rfl ⟨zAg c30,zAg c540⟩ (fun hHeld => ?_)
 refine pu_ 1 107 ?_
 refine ta_ 0 106 hHeld ?_
 refine ta_ 2 108 hHeld ?_
 refine pu_ 3 109 ?_
 refine on_ 4 (some 110) (fun K hK => ?_)
 refine gs_ Tryz.func70 #[.pointer (some ⟨p,0,none⟩),.slice A4 (1) (c4),.int .i64 2] ?_
 with_reducible refine (HA.out _ (zAk HB0.out) (HCN.out _ (zAk (Below.refl _ _)))).mono ?_
 rintro e_ W1 ⟨rfl,hb_⟩
 refine ⟨_,rfl,?_⟩
 have HB1:=Lib.hid (zAd (zAk (HB0.out)) hb_)
 have X31:=Lib.hid (zAe (zAl (X30.out)) hb_)
 have X51:=Lib.hid (zAe (zAl (X50.out)) hb_)
 clear hb_
 have c31:=bc_ X31.out 0
 have c541:=bc_ X51.out 4
 refine hK.out _ _ ⟨c31,c541⟩ (fun hHeld => ?_)
 clear hK K
 refine no_ ?_
 refine on_ 5 (some 111) (fun K hK => ?_)
 refine gs_ Tryz.func72 #[.bool ob] ?_
 with_reducible refine (told_is ob _).mono ?_
 rintro e_ w_ ⟨he_,rfl⟩
 rw [← HR.out] at he_
 subst he_
 refine ⟨_,rfl,?_⟩
 refine hK.out _ _ ⟨c31,c541⟩ (fun hHeld => ?_)
 clear hK K
 refine no_ ?_
 refine pu_ 6 4 ?_
 refine done_ (by kernel_rfl) ?_
 go_wp2_with fail
 go_ret
 exact ⟨rfl,HB1.out⟩
theorem check_13 (p : Nat) (At : Option Addr) (ct : Nat) (ns : List S66) (root : Int) (ol : List Int) (q : Int) (h0 : 0 ≤ q) (h1 : q < ns.length) (hk : kdOf ns q = 13) (hKI : KidsIn ns) (hp : 0 < (rd_T66 ns q).f4.length) (w : World) (hS : Sc p At ct ns root ol w) :
  Calls Tryz.prog 34 #[.pointer (some ⟨p,0,none⟩),.int .i64 q] w fun e w' => e = .returned (.int .i64 (callF ns ol q (nmOf ns (rd (rd_T66 ns q).f4 0)) (nmOf ns q) (rd_T66 ns q).f4)) ∧ Below w.heap.size w w':=by
 have hmf:=@hmf_ Tryz.prog
 have hkq:=hKI (rd_T66 ns q) (zAA ns q h0 h1)
 have hsz:=KidsIn.size hS h0 h1
 have hbx : Below w.heap.size w (w.alloc (.cells #[.pointer (some ⟨p,0,none⟩)] 87)):=zAa (Below.refl _ _) _
 obtain ⟨Wb,hWb⟩ : ∃ W_,W_ = w.alloc (.cells #[.pointer (some ⟨p,0,none⟩)] 87):=⟨_,rfl⟩
 rw [← hWb] at hbx
 obtain ⟨bo,g,r0,l,Lb,h⟩:=hS.below hbx
 have cp0:=bc_ h.hp 0
 have cb : Wb.cell? ⟨w.heap.size,0,none⟩ = some (.pointer (some ⟨p,0,none⟩)):=by rw [hWb]; exact (zAh (heap_alloc_new w _) 0).trans rfl
 obtain ⟨ad,A4,c4,eA,z0,z1,z2,z3,z4,l4,g4⟩:=at_T66 h.hC q h0 h1
 have e0:=eq_true h0
 have e1:=eq_true h1
 have hk0 : kdOf ns q = (rd_T66 ns q).f0:=rfl
 have ht0 : nmOf ns q = (rd_T66 ns q).f3.data.toList:=rfl
 obtain ⟨x,hx⟩ : ∃ x,x = rd_T66 ns q:=⟨_,rfl⟩
 rw [← hx] at z0 z1 z2 z3 z4 l4 g4 hkq hsz hk0 ht0 hp ⊢
 obtain ⟨k,n,at_,tx,kl⟩:=x
 dsimp only at z0 z1 z2 z3 z4 l4 g4 hkq hsz hk0 ht0 hp ⊢
 rw [hk] at hk0
 subst hk0
 have x3:=heap_alloc_new w (.cells #[.pointer (some ⟨p,0,none⟩)] 87)
 rw [← hWb] at x3
 have hb0 : Below w.heap.size w (Wb.alloc (.cells #[.int .i64 13,.int .i64 n,.int .i64 at_,.string tx,.slice A4 kl.length c4] 66)):=zAa hbx _
 have hbC : Below Wb.heap.size Wb (Wb.alloc (.cells #[.int .i64 13,.int .i64 n,.int .i64 at_,.string tx,.slice A4 kl.length c4] 66)):=zAa (Below.refl _ _) _
 replace x3:=zAj x3 (.cells #[.int .i64 13,.int .i64 n,.int .i64 at_,.string tx,.slice A4 kl.length c4] 66)
 have x5:=heap_alloc_new Wb (.cells #[.int .i64 13,.int .i64 n,.int .i64 at_,.string tx,.slice A4 kl.length c4] 66)
 rw [show Wb.heap.size = w.heap.size + 1 from by rw [hWb]; simp] at x5
 have HCW:=Lib.hid (fun (w' : World) (hb : Below (Wb.alloc (.cells #[.int .i64 13,.int .i64 n,.int .i64 at_,.string tx,.slice A4 kl.length c4] 66)).heap.size (Wb.alloc (.cells #[.int .i64 13,.int .i64 n,.int .i64 at_,.string tx,.slice A4 kl.length c4] 66)) w') => Kd.C_below (Kd.C_below g4 hbC) hb)
 obtain ⟨W0,hW0⟩ : ∃ W_,W_ = Wb.alloc (.cells #[.int .i64 13,.int .i64 n,.int .i64 at_,.string tx,.slice A4 kl.length c4] 66):=⟨_,rfl⟩
 rw [← hW0] at hb0 x3 x5 HCW
 have HB0:=Lib.hid hb0
 have X30:=Lib.hid x3
 have X50:=Lib.hid x5
 have HW0:=Lib.hid hW0
 have HS:=Lib.hid (fun (w' : World) (hb : Below w.heap.size w w') => hS.below hb)
 have HKQ:=Lib.hid hkq
 have hkl:=hkq.2
 have HSZ:=Lib.hid hsz
 have HT0:=Lib.hid ht0
 have HKI:=Lib.hid hKI
 cases eA
 clear h hb0 hbC x3 x5 hW0 hbx g4 hkq hsz hx hKI hk hS
 rw [HT0.out]
 have HO:=Lib.hid (call_is p (some ad) ct ns root ol q h0 h1 13 n at_ tx A4 c4 kl hp W0 (HS.out W0 HB0.out) HKI.out HKQ.out.1 HKQ.out.2 (HCW.out W0 (Below.refl _ _)) l4 HSZ.out)
 obtain ⟨R,hR⟩ : ∃ R,R = callF ns ol q (nmOf ns (rd kl 0)) tx.data.toList kl:=⟨_,rfl⟩
 rw [← hR] at HO ⊢
 clear hR
 subst hWb
 go_enter Tryz.func34,Tryz.ntmps34
 go_wp2_with fail
 rw [← HW0.out]
 clear z0 z1 z2 z3 z4 cp0 cb e0 e1
 refine HO.out.mono ?_
 rintro e_ W1 ⟨rfl,hb_⟩
 have HB1:=Lib.hid (zAd (HB0.out) hb_)
 have X31:=Lib.hid (zAe (X30.out) hb_)
 have X51:=Lib.hid (zAe (X50.out) hb_)
 clear hb_
 go_wp2_with fail
 go_ret
 exact ⟨rfl,HB1.out⟩
theorem check_14 (p : Nat) (At : Option Addr) (ct : Nat) (ns : List S66) (root : Int) (ol : List Int) (q : Int) (h0 : 0 ≤ q) (h1 : q < ns.length) (hk : kdOf ns q = 14) (hKI : KidsIn ns) (hown : rd ol q ≠ -1) (w : World) (hS : Sc p At ct ns root ol w) :
  Calls Tryz.prog 34 #[.pointer (some ⟨p,0,none⟩),.int .i64 q] w fun e w' => e = .returned (.int .i64 (if (((nOf ns (rd ol q) == 0) == (((rd_T66 ns q).f4.length : Int) == 0)) && allF ns ol (nOf ns (rd ol q)) (rd_T66 ns q).f4) = true then 0 else 5)) ∧ Below w.heap.size w w':=by
 have hmf:=@hmf_ Tryz.prog
 have hkq:=hKI (rd_T66 ns q) (zAA ns q h0 h1)
 have hsz:=KidsIn.size hS h0 h1
 have hbx : Below w.heap.size w (w.alloc (.cells #[.pointer (some ⟨p,0,none⟩)] 87)):=zAa (Below.refl _ _) _
 obtain ⟨Wb,hWb⟩ : ∃ W_,W_ = w.alloc (.cells #[.pointer (some ⟨p,0,none⟩)] 87):=⟨_,rfl⟩
 rw [← hWb] at hbx
 obtain ⟨bo,g,r0,l,Lb,h⟩:=hS.below hbx
 have cp0:=bc_ h.hp 0
 have cb : Wb.cell? ⟨w.heap.size,0,none⟩ = some (.pointer (some ⟨p,0,none⟩)):=by rw [hWb]; exact (zAh (heap_alloc_new w _) 0).trans rfl
 obtain ⟨ad,A4,c4,eA,z0,z1,z2,z3,z4,l4,g4⟩:=at_T66 h.hC q h0 h1
 have e0:=eq_true h0
 have e1:=eq_true h1
 have hk0 : kdOf ns q = (rd_T66 ns q).f0:=rfl
 have ht0 : nmOf ns q = (rd_T66 ns q).f3.data.toList:=rfl
 obtain ⟨x,hx⟩ : ∃ x,x = rd_T66 ns q:=⟨_,rfl⟩
 rw [← hx] at z0 z1 z2 z3 z4 l4 g4 hkq hsz hk0 ht0 ⊢
 obtain ⟨k,n,at_,tx,kl⟩:=x
 dsimp only at z0 z1 z2 z3 z4 l4 g4 hkq hsz hk0 ht0 ⊢
 rw [hk] at hk0
 subst hk0
 have x3:=heap_alloc_new w (.cells #[.pointer (some ⟨p,0,none⟩)] 87)
 rw [← hWb] at x3
 have hb0 : Below w.heap.size w (Wb.alloc (.cells #[.int .i64 14,.int .i64 n,.int .i64 at_,.string tx,.slice A4 kl.length c4] 66)):=zAa hbx _
 have hbC : Below Wb.heap.size Wb (Wb.alloc (.cells #[.int .i64 14,.int .i64 n,.int .i64 at_,.string tx,.slice A4 kl.length c4] 66)):=zAa (Below.refl _ _) _
 replace x3:=zAj x3 (.cells #[.int .i64 14,.int .i64 n,.int .i64 at_,.string tx,.slice A4 kl.length c4] 66)
 have x5:=heap_alloc_new Wb (.cells #[.int .i64 14,.int .i64 n,.int .i64 at_,.string tx,.slice A4 kl.length c4] 66)
 rw [show Wb.heap.size = w.heap.size + 1 from by rw [hWb]; simp] at x5
 have HCW:=Lib.hid (fun (w' : World) (hb : Below (Wb.alloc (.cells #[.int .i64 14,.int .i64 n,.int .i64 at_,.string tx,.slice A4 kl.length c4] 66)).heap.size (Wb.alloc (.cells #[.int .i64 14,.int .i64 n,.int .i64 at_,.string tx,.slice A4 kl.length c4] 66)) w') => Kd.C_below (Kd.C_below g4 hbC) hb)
 obtain ⟨W0,hW0⟩ : ∃ W_,W_ = Wb.alloc (.cells #[.int .i64 14,.int .i64 n,.int .i64 at_,.string tx,.slice A4 kl.length c4] 66):=⟨_,rfl⟩
 rw [← hW0] at hb0 x3 x5 HCW
 have HB0:=Lib.hid hb0
 have X30:=Lib.hid x3
 have X50:=Lib.hid x5
 have HW0:=Lib.hid hW0
 have HS:=Lib.hid (fun (w' : World) (hb : Below w.heap.size w w') => hS.below hb)
 have HKQ:=Lib.hid hkq
 have hkl:=hkq.2
 have HSZ:=Lib.hid hsz
 have HT0:=Lib.hid ht0
 have HKI:=Lib.hid hKI
 cases eA
 clear h hb0 hbC x3 x5 hW0 hbx g4 hkq hsz hx hKI hk hS
 obtain ⟨bo,g,r0,l,Lb,h⟩:=HS.out W0 HB0.out
 have how:=(h.hown.2 q h0 h1).resolve_left hown
 have d0:=bc_ h.hp 0
 have d2:=bc_ h.hp 2
 have d2' : W0.cell? ⟨p,1 + 1,none⟩ = some (.slice (some ⟨bo,0,none⟩) ns.length ns.length):=d2
 have do_ : W0.cell? ⟨bo,q.toNat,none⟩ = some (.int .i64 (rd ol q)):=(zAh h.hO _).trans (zAO ol q h0 (by have:=h.hown.1; omega))
 obtain ⟨ow,how0⟩ : ∃ ow,ow = rd ol q:=⟨_,rfl⟩
 rw [← how0] at how do_ ⊢
 obtain ⟨ad',A5,c5,eA,y0,y1,y2,y3,y4,l5,g5⟩:=at_T66 h.hC ow how.1 how.2.1
 cases eA
 have hn1 : nOf ns ow = (rd_T66 ns ow).f1:=rfl
 rw [← hn1] at y1
 obtain ⟨an,han⟩ : ∃ an,an = nOf ns ow:=⟨_,rfl⟩
 rw [← han] at y1 ⊢
 have f1:=eq_true how.1
 have f2:=eq_true how.2.1
 have HA:=Lib.hid (fun (w' : World) (hb : Below w.heap.size w w') (hb2 : Below W0.heap.size W0 w') => all_is p (some ad) ct ns root ol an A4 c4 kl HKQ.out.1 HKQ.out.2 w' (HS.out w' hb) (HCW.out w' hb2) l4)
 obtain ⟨ob,hob⟩ : ∃ ob,ob = allF ns ol an kl:=⟨_,rfl⟩
 rw [← hob] at HA ⊢
 obtain ⟨R,hR⟩ : ∃ R : Int,R = if (((an == 0) == ((kl.length : Int) == 0)) && ob) = true then 0 else 5:=⟨_,rfl⟩
 rw [← hR]
 have HR0:=Lib.hid hR
 clear h how hown how0 hn1 han hob hR y0 y2 y3 y4 l5 g5
 subst hWb
 go_enter Tryz.func34,Tryz.ntmps34
 go_wp2_with fail
 rw [← HW0.out]
 clear z0 z1 z2 z3 z4 cp0 cb e0 e1
 have c30:=bc_ X30.out 0
 have f0:=eq_true h0
 have f3:=eq_true h1
 go_quiet (fail)
 obtain ⟨W1,hW1⟩ : ∃ W1,W1 = W0.drewN nq:=⟨_,rfl⟩
 rw [← hW1]
 have hb_ : Below W0.heap.size W0 W1:=by rw [hW1]; exact zAf (Below.refl _ _) _
 have HB01:=Lib.hid hb_
 have HB1:=Lib.hid (zAd (HB0.out) hb_)
 have X31:=Lib.hid (zAe (X30.out) hb_)
 have X51:=Lib.hid (zAe (X50.out) hb_)
 clear hb_
 clear hW1 d0 d2 d2' do_ y1 f1 f2 c30
 have c31:=bc_ X31.out 0
 have c541:=bc_ X51.out 4
 cases hcd : ((an == 0) == ((kl.length : Int) == 0)) with
 | false =>
  have hR:=HR0.out
  rw [hcd,Bool.false_and] at hR
  have HR : Hid (R = if false = true then 0 else 5):=Lib.hid hR
  clear hR HR0
  go_wp2_with fail
  refine (told_is false _).mono ?_
  rintro e_ w_ ⟨he_,rfl⟩
  rw [← HR.out] at he_
  subst he_
  go_wp2_with fail
  go_ret
  exact ⟨rfl,HB1.out⟩
 | true =>
  have hR:=HR0.out
  rw [hcd,Bool.true_and] at hR
  have HR : Hid (R = if ob = true then 0 else 5):=Lib.hid hR
  clear hR HR0
  go_wp2_with fail
  refine (HA.out W1 HB1.out HB01.out).mono ?_
  rintro e_ W2 ⟨rfl,hb_⟩
  have HB2:=Lib.hid (zAd (HB1.out) hb_)
  have X32:=Lib.hid (zAe (X31.out) hb_)
  have X52:=Lib.hid (zAe (X51.out) hb_)
  clear hb_
  go_wp2_with fail
  refine (told_is ob _).mono ?_
  rintro e_ w_ ⟨he_,rfl⟩
  rw [← HR.out] at he_
  subst he_
  go_wp2_with fail
  go_ret
  exact ⟨rfl,HB2.out⟩
theorem check_2 (p : Nat) (At : Option Addr) (ct : Nat) (ns : List S66) (root : Int) (ol : List Int) (q : Int) (h0 : 0 ≤ q) (h1 : q < ns.length) (hk : kdOf ns q = 2) (hKI : KidsIn ns) (w : World) (hS : Sc p At ct ns root ol w) :
  Calls Tryz.prog 34 #[.pointer (some ⟨p,0,none⟩),.int .i64 q] w fun e w' => e = .returned (.int .i64 (if (decide ((glF ns ns.length (nmOf ns q)).getD 0 ≠ q) : Bool) = true then 4 else 0)) ∧ Below w.heap.size w w':=by
 have hmf:=@hmf_ Tryz.prog
 have hkq:=hKI (rd_T66 ns q) (zAA ns q h0 h1)
 have hsz:=KidsIn.size hS h0 h1
 have hbx : Below w.heap.size w (w.alloc (.cells #[.pointer (some ⟨p,0,none⟩)] 87)):=zAa (Below.refl _ _) _
 obtain ⟨Wb,hWb⟩ : ∃ W_,W_ = w.alloc (.cells #[.pointer (some ⟨p,0,none⟩)] 87):=⟨_,rfl⟩
 rw [← hWb] at hbx
 obtain ⟨bo,g,r0,l,Lb,h⟩:=hS.below hbx
 have cp0:=bc_ h.hp 0
 have cb : Wb.cell? ⟨w.heap.size,0,none⟩ = some (.pointer (some ⟨p,0,none⟩)):=by rw [hWb]; exact (zAh (heap_alloc_new w _) 0).trans rfl
 obtain ⟨ad,A4,c4,eA,z0,z1,z2,z3,z4,l4,g4⟩:=at_T66 h.hC q h0 h1
 have e0:=eq_true h0
 have e1:=eq_true h1
 have hk0 : kdOf ns q = (rd_T66 ns q).f0:=rfl
 have ht0 : nmOf ns q = (rd_T66 ns q).f3.data.toList:=rfl
 obtain ⟨x,hx⟩ : ∃ x,x = rd_T66 ns q:=⟨_,rfl⟩
 rw [← hx] at z0 z1 z2 z3 z4 l4 g4 hkq hsz hk0 ht0
 obtain ⟨k,n,at_,tx,kl⟩:=x
 dsimp only at z0 z1 z2 z3 z4 l4 g4 hkq hsz hk0 ht0
 rw [hk] at hk0
 subst hk0
 have x3:=heap_alloc_new w (.cells #[.pointer (some ⟨p,0,none⟩)] 87)
 rw [← hWb] at x3
 have hb0 : Below w.heap.size w (Wb.alloc (.cells #[.int .i64 2,.int .i64 n,.int .i64 at_,.string tx,.slice A4 kl.length c4] 66)):=zAa hbx _
 have hbC : Below Wb.heap.size Wb (Wb.alloc (.cells #[.int .i64 2,.int .i64 n,.int .i64 at_,.string tx,.slice A4 kl.length c4] 66)):=zAa (Below.refl _ _) _
 replace x3:=zAj x3 (.cells #[.int .i64 2,.int .i64 n,.int .i64 at_,.string tx,.slice A4 kl.length c4] 66)
 have x5:=heap_alloc_new Wb (.cells #[.int .i64 2,.int .i64 n,.int .i64 at_,.string tx,.slice A4 kl.length c4] 66)
 rw [show Wb.heap.size = w.heap.size + 1 from by rw [hWb]; simp] at x5
 have HCW:=Lib.hid (fun (w' : World) (hb : Below (Wb.alloc (.cells #[.int .i64 2,.int .i64 n,.int .i64 at_,.string tx,.slice A4 kl.length c4] 66)).heap.size (Wb.alloc (.cells #[.int .i64 2,.int .i64 n,.int .i64 at_,.string tx,.slice A4 kl.length c4] 66)) w') => Kd.C_below (Kd.C_below g4 hbC) hb)
 obtain ⟨W0,hW0⟩ : ∃ W_,W_ = Wb.alloc (.cells #[.int .i64 2,.int .i64 n,.int .i64 at_,.string tx,.slice A4 kl.length c4] 66):=⟨_,rfl⟩
 rw [← hW0] at hb0 x3 x5 HCW
 have HB0:=Lib.hid hb0
 have X30:=Lib.hid x3
 have X50:=Lib.hid x5
 have HW0:=Lib.hid hW0
 have HS:=Lib.hid (fun (w' : World) (hb : Below w.heap.size w w') => hS.below hb)
 have HKQ:=Lib.hid hkq
 have hkl:=hkq.2
 have HSZ:=Lib.hid hsz
 have HT0:=Lib.hid ht0
 have HKI:=Lib.hid hKI
 cases eA
 clear h hb0 hbC x3 x5 hW0 hbx g4 hkq hsz hx hKI hk hS
 have HO:=Lib.hid (twice_2 p (some ad) ct ns root ol q h0 h1 n at_ tx A4 c4 kl W0 (HS.out W0 HB0.out) HSZ.out)
 rw [HT0.out]
 obtain ⟨ob,hob⟩ : ∃ ob : Bool,ob = decide ((glF ns ns.length tx.data.toList).getD 0 ≠ q):=⟨_,rfl⟩
 rw [← hob] at HO ⊢
 clear hob
 obtain ⟨R,hR⟩ : ∃ R : Int,R = if ob = true then 4 else 0:=⟨_,rfl⟩
 rw [← hR]
 have HR:=Lib.hid hR
 clear hR
 subst hWb
 go_enter Tryz.func34,Tryz.ntmps34
 go_wp2_with fail
 rw [← HW0.out]
 clear z0 z1 z2 z3 z4 cp0 cb e0 e1
 refine HO.out.mono ?_
 rintro e_ W1 ⟨rfl,hb_⟩
 have HB1:=Lib.hid (zAd (HB0.out) hb_)
 have X31:=Lib.hid (zAe (X30.out) hb_)
 have X51:=Lib.hid (zAe (X50.out) hb_)
 clear hb_
 cases ob with
 | true =>
  have hR : R = 4:=HR.out
  subst hR
  clear HR
  go_wp2_with fail
  go_ret
  exact ⟨rfl,HB1.out⟩
 | false =>
  have hR : R = 0:=HR.out
  subst hR
  clear HR
  go_wp2_with fail
  go_ret
  exact ⟨rfl,HB1.out⟩
theorem check_3 (p : Nat) (At : Option Addr) (ct : Nat) (ns : List S66) (root : Int) (ol : List Int) (q : Int) (h0 : 0 ≤ q) (h1 : q < ns.length) (hk : kdOf ns q = 3) (hKI : KidsIn ns) (w : World) (hS : Sc p At ct ns root ol w) :
  Calls Tryz.prog 34 #[.pointer (some ⟨p,0,none⟩),.int .i64 q] w fun e w' => e = .returned (.int .i64 (if (((glF ns ns.length (nmOf ns q)).isSome || decide ((prF ns ns.length (nmOf ns q)).getD 0 ≠ q)) : Bool) = true then 4 else 0)) ∧ Below w.heap.size w w':=by
 have hmf:=@hmf_ Tryz.prog
 have hkq:=hKI (rd_T66 ns q) (zAA ns q h0 h1)
 have hsz:=KidsIn.size hS h0 h1
 have hbx : Below w.heap.size w (w.alloc (.cells #[.pointer (some ⟨p,0,none⟩)] 87)):=zAa (Below.refl _ _) _
 obtain ⟨Wb,hWb⟩ : ∃ W_,W_ = w.alloc (.cells #[.pointer (some ⟨p,0,none⟩)] 87):=⟨_,rfl⟩
 rw [← hWb] at hbx
 obtain ⟨bo,g,r0,l,Lb,h⟩:=hS.below hbx
 have cp0:=bc_ h.hp 0
 have cb : Wb.cell? ⟨w.heap.size,0,none⟩ = some (.pointer (some ⟨p,0,none⟩)):=by rw [hWb]; exact (zAh (heap_alloc_new w _) 0).trans rfl
 obtain ⟨ad,A4,c4,eA,z0,z1,z2,z3,z4,l4,g4⟩:=at_T66 h.hC q h0 h1
 have e0:=eq_true h0
 have e1:=eq_true h1
 have hk0 : kdOf ns q = (rd_T66 ns q).f0:=rfl
 have ht0 : nmOf ns q = (rd_T66 ns q).f3.data.toList:=rfl
 obtain ⟨x,hx⟩ : ∃ x,x = rd_T66 ns q:=⟨_,rfl⟩
 rw [← hx] at z0 z1 z2 z3 z4 l4 g4 hkq hsz hk0 ht0
 obtain ⟨k,n,at_,tx,kl⟩:=x
 dsimp only at z0 z1 z2 z3 z4 l4 g4 hkq hsz hk0 ht0
 rw [hk] at hk0
 subst hk0
 have x3:=heap_alloc_new w (.cells #[.pointer (some ⟨p,0,none⟩)] 87)
 rw [← hWb] at x3
 have hb0 : Below w.heap.size w (Wb.alloc (.cells #[.int .i64 3,.int .i64 n,.int .i64 at_,.string tx,.slice A4 kl.length c4] 66)):=zAa hbx _
 have hbC : Below Wb.heap.size Wb (Wb.alloc (.cells #[.int .i64 3,.int .i64 n,.int .i64 at_,.string tx,.slice A4 kl.length c4] 66)):=zAa (Below.refl _ _) _
 replace x3:=zAj x3 (.cells #[.int .i64 3,.int .i64 n,.int .i64 at_,.string tx,.slice A4 kl.length c4] 66)
 have x5:=heap_alloc_new Wb (.cells #[.int .i64 3,.int .i64 n,.int .i64 at_,.string tx,.slice A4 kl.length c4] 66)
 rw [show Wb.heap.size = w.heap.size + 1 from by rw [hWb]; simp] at x5
 have HCW:=Lib.hid (fun (w' : World) (hb : Below (Wb.alloc (.cells #[.int .i64 3,.int .i64 n,.int .i64 at_,.string tx,.slice A4 kl.length c4] 66)).heap.size (Wb.alloc (.cells #[.int .i64 3,.int .i64 n,.int .i64 at_,.string tx,.slice A4 kl.length c4] 66)) w') => Kd.C_below (Kd.C_below g4 hbC) hb)
 obtain ⟨W0,hW0⟩ : ∃ W_,W_ = Wb.alloc (.cells #[.int .i64 3,.int .i64 n,.int .i64 at_,.string tx,.slice A4 kl.length c4] 66):=⟨_,rfl⟩
 rw [← hW0] at hb0 x3 x5 HCW
 have HB0:=Lib.hid hb0
 have X30:=Lib.hid x3
 have X50:=Lib.hid x5
 have HW0:=Lib.hid hW0
 have HS:=Lib.hid (fun (w' : World) (hb : Below w.heap.size w w') => hS.below hb)
 have HKQ:=Lib.hid hkq
 have hkl:=hkq.2
 have HSZ:=Lib.hid hsz
 have HT0:=Lib.hid ht0
 have HKI:=Lib.hid hKI
 cases eA
 clear h hb0 hbC x3 x5 hW0 hbx g4 hkq hsz hx hKI hk hS
 have HO:=Lib.hid (twice_3 p (some ad) ct ns root ol q h0 h1 n at_ tx A4 c4 kl W0 (HS.out W0 HB0.out) HSZ.out)
 rw [HT0.out]
 obtain ⟨ob,hob⟩ : ∃ ob : Bool,ob = ((glF ns ns.length tx.data.toList).isSome || decide ((prF ns ns.length tx.data.toList).getD 0 ≠ q)):=⟨_,rfl⟩
 rw [← hob] at HO ⊢
 clear hob
 obtain ⟨R,hR⟩ : ∃ R : Int,R = if ob = true then 4 else 0:=⟨_,rfl⟩
 rw [← hR]
 have HR:=Lib.hid hR
 clear hR
 subst hWb
 go_enter Tryz.func34,Tryz.ntmps34
 go_wp2_with fail
 rw [← HW0.out]
 clear z0 z1 z2 z3 z4 cp0 cb e0 e1
 refine HO.out.mono ?_
 rintro e_ W1 ⟨rfl,hb_⟩
 have HB1:=Lib.hid (zAd (HB0.out) hb_)
 have X31:=Lib.hid (zAe (X30.out) hb_)
 have X51:=Lib.hid (zAe (X50.out) hb_)
 clear hb_
 cases ob with
 | true =>
  have hR : R = 4:=HR.out
  subst hR
  clear HR
  go_wp2_with fail
  go_ret
  exact ⟨rfl,HB1.out⟩
 | false =>
  have hR : R = 0:=HR.out
  subst hR
  clear HR
  go_wp2_with fail
  go_ret
  exact ⟨rfl,HB1.out⟩
theorem check_4 (p : Nat) (At : Option Addr) (ct : Nat) (ns : List S66) (root : Int) (ol : List Int) (q : Int) (h0 : 0 ≤ q) (h1 : q < ns.length) (hk : kdOf ns q = 4) (hKI : KidsIn ns) (hown : rd ol q ≠ -1) (w : World) (hS : Sc p At ct ns root ol w) :
  Calls Tryz.prog 34 #[.pointer (some ⟨p,0,none⟩),.int .i64 q] w fun e w' => e = .returned (.int .i64 (if (decide ((loF ns ol (rd ol q) ns.length (nmOf ns q)).getD 0 ≠ q) : Bool) = true then 4 else 0)) ∧ Below w.heap.size w w':=by
 have hmf:=@hmf_ Tryz.prog
 have hkq:=hKI (rd_T66 ns q) (zAA ns q h0 h1)
 have hsz:=KidsIn.size hS h0 h1
 have hbx : Below w.heap.size w (w.alloc (.cells #[.pointer (some ⟨p,0,none⟩)] 87)):=zAa (Below.refl _ _) _
 obtain ⟨Wb,hWb⟩ : ∃ W_,W_ = w.alloc (.cells #[.pointer (some ⟨p,0,none⟩)] 87):=⟨_,rfl⟩
 rw [← hWb] at hbx
 obtain ⟨bo,g,r0,l,Lb,h⟩:=hS.below hbx
 have cp0:=bc_ h.hp 0
 have cb : Wb.cell? ⟨w.heap.size,0,none⟩ = some (.pointer (some ⟨p,0,none⟩)):=by rw [hWb]; exact (zAh (heap_alloc_new w _) 0).trans rfl
 obtain ⟨ad,A4,c4,eA,z0,z1,z2,z3,z4,l4,g4⟩:=at_T66 h.hC q h0 h1
 have e0:=eq_true h0
 have e1:=eq_true h1
 have hk0 : kdOf ns q = (rd_T66 ns q).f0:=rfl
 have ht0 : nmOf ns q = (rd_T66 ns q).f3.data.toList:=rfl
 obtain ⟨x,hx⟩ : ∃ x,x = rd_T66 ns q:=⟨_,rfl⟩
 rw [← hx] at z0 z1 z2 z3 z4 l4 g4 hkq hsz hk0 ht0
 obtain ⟨k,n,at_,tx,kl⟩:=x
 dsimp only at z0 z1 z2 z3 z4 l4 g4 hkq hsz hk0 ht0
 rw [hk] at hk0
 subst hk0
 have x3:=heap_alloc_new w (.cells #[.pointer (some ⟨p,0,none⟩)] 87)
 rw [← hWb] at x3
 have hb0 : Below w.heap.size w (Wb.alloc (.cells #[.int .i64 4,.int .i64 n,.int .i64 at_,.string tx,.slice A4 kl.length c4] 66)):=zAa hbx _
 have hbC : Below Wb.heap.size Wb (Wb.alloc (.cells #[.int .i64 4,.int .i64 n,.int .i64 at_,.string tx,.slice A4 kl.length c4] 66)):=zAa (Below.refl _ _) _
 replace x3:=zAj x3 (.cells #[.int .i64 4,.int .i64 n,.int .i64 at_,.string tx,.slice A4 kl.length c4] 66)
 have x5:=heap_alloc_new Wb (.cells #[.int .i64 4,.int .i64 n,.int .i64 at_,.string tx,.slice A4 kl.length c4] 66)
 rw [show Wb.heap.size = w.heap.size + 1 from by rw [hWb]; simp] at x5
 have HCW:=Lib.hid (fun (w' : World) (hb : Below (Wb.alloc (.cells #[.int .i64 4,.int .i64 n,.int .i64 at_,.string tx,.slice A4 kl.length c4] 66)).heap.size (Wb.alloc (.cells #[.int .i64 4,.int .i64 n,.int .i64 at_,.string tx,.slice A4 kl.length c4] 66)) w') => Kd.C_below (Kd.C_below g4 hbC) hb)
 obtain ⟨W0,hW0⟩ : ∃ W_,W_ = Wb.alloc (.cells #[.int .i64 4,.int .i64 n,.int .i64 at_,.string tx,.slice A4 kl.length c4] 66):=⟨_,rfl⟩
 rw [← hW0] at hb0 x3 x5 HCW
 have HB0:=Lib.hid hb0
 have X30:=Lib.hid x3
 have X50:=Lib.hid x5
 have HW0:=Lib.hid hW0
 have HS:=Lib.hid (fun (w' : World) (hb : Below w.heap.size w w') => hS.below hb)
 have HKQ:=Lib.hid hkq
 have hkl:=hkq.2
 have HSZ:=Lib.hid hsz
 have HT0:=Lib.hid ht0
 have HKI:=Lib.hid hKI
 cases eA
 clear h hb0 hbC x3 x5 hW0 hbx g4 hkq hsz hx hKI hk hS
 have HO:=Lib.hid (twice_45 p (some ad) ct ns root ol q h0 h1 4 n at_ tx A4 c4 kl W0 (HS.out W0 HB0.out) HSZ.out (.inl rfl) hown)
 rw [HT0.out]
 obtain ⟨ob,hob⟩ : ∃ ob : Bool,ob = decide ((loF ns ol (rd ol q) ns.length tx.data.toList).getD 0 ≠ q):=⟨_,rfl⟩
 rw [← hob] at HO ⊢
 clear hob
 obtain ⟨R,hR⟩ : ∃ R : Int,R = if ob = true then 4 else 0:=⟨_,rfl⟩
 rw [← hR]
 have HR:=Lib.hid hR
 clear hR
 subst hWb
 go_enter Tryz.func34,Tryz.ntmps34
 go_wp2_with fail
 rw [← HW0.out]
 clear z0 z1 z2 z3 z4 cp0 cb e0 e1
 refine HO.out.mono ?_
 rintro e_ W1 ⟨rfl,hb_⟩
 have HB1:=Lib.hid (zAd (HB0.out) hb_)
 have X31:=Lib.hid (zAe (X30.out) hb_)
 have X51:=Lib.hid (zAe (X50.out) hb_)
 clear hb_
 cases ob with
 | true =>
  have hR : R = 4:=HR.out
  subst hR
  clear HR
  go_wp2_with fail
  go_ret
  exact ⟨rfl,HB1.out⟩
 | false =>
  have hR : R = 0:=HR.out
  subst hR
  clear HR
  go_wp2_with fail
  go_ret
  exact ⟨rfl,HB1.out⟩
theorem check_5 (p : Nat) (At : Option Addr) (ct : Nat) (ns : List S66) (root : Int) (ol : List Int) (q : Int) (h0 : 0 ≤ q) (h1 : q < ns.length) (hk : kdOf ns q = 5) (hKI : KidsIn ns) (hown : rd ol q ≠ -1) (w : World) (hS : Sc p At ct ns root ol w) :
  Calls Tryz.prog 34 #[.pointer (some ⟨p,0,none⟩),.int .i64 q] w fun e w' => e = .returned (.int .i64 (if (decide ((loF ns ol (rd ol q) ns.length (nmOf ns q)).getD 0 ≠ q) : Bool) = true then 4 else 0)) ∧ Below w.heap.size w w':=by
 have hmf:=@hmf_ Tryz.prog
 have hkq:=hKI (rd_T66 ns q) (zAA ns q h0 h1)
 have hsz:=KidsIn.size hS h0 h1
 have hbx : Below w.heap.size w (w.alloc (.cells #[.pointer (some ⟨p,0,none⟩)] 87)):=zAa (Below.refl _ _) _
 obtain ⟨Wb,hWb⟩ : ∃ W_,W_ = w.alloc (.cells #[.pointer (some ⟨p,0,none⟩)] 87):=⟨_,rfl⟩
 rw [← hWb] at hbx
 obtain ⟨bo,g,r0,l,Lb,h⟩:=hS.below hbx
 have cp0:=bc_ h.hp 0
 have cb : Wb.cell? ⟨w.heap.size,0,none⟩ = some (.pointer (some ⟨p,0,none⟩)):=by rw [hWb]; exact (zAh (heap_alloc_new w _) 0).trans rfl
 obtain ⟨ad,A4,c4,eA,z0,z1,z2,z3,z4,l4,g4⟩:=at_T66 h.hC q h0 h1
 have e0:=eq_true h0
 have e1:=eq_true h1
 have hk0 : kdOf ns q = (rd_T66 ns q).f0:=rfl
 have ht0 : nmOf ns q = (rd_T66 ns q).f3.data.toList:=rfl
 obtain ⟨x,hx⟩ : ∃ x,x = rd_T66 ns q:=⟨_,rfl⟩
 rw [← hx] at z0 z1 z2 z3 z4 l4 g4 hkq hsz hk0 ht0
 obtain ⟨k,n,at_,tx,kl⟩:=x
 dsimp only at z0 z1 z2 z3 z4 l4 g4 hkq hsz hk0 ht0
 rw [hk] at hk0
 subst hk0
 have x3:=heap_alloc_new w (.cells #[.pointer (some ⟨p,0,none⟩)] 87)
 rw [← hWb] at x3
 have hb0 : Below w.heap.size w (Wb.alloc (.cells #[.int .i64 5,.int .i64 n,.int .i64 at_,.string tx,.slice A4 kl.length c4] 66)):=zAa hbx _
 have hbC : Below Wb.heap.size Wb (Wb.alloc (.cells #[.int .i64 5,.int .i64 n,.int .i64 at_,.string tx,.slice A4 kl.length c4] 66)):=zAa (Below.refl _ _) _
 replace x3:=zAj x3 (.cells #[.int .i64 5,.int .i64 n,.int .i64 at_,.string tx,.slice A4 kl.length c4] 66)
 have x5:=heap_alloc_new Wb (.cells #[.int .i64 5,.int .i64 n,.int .i64 at_,.string tx,.slice A4 kl.length c4] 66)
 rw [show Wb.heap.size = w.heap.size + 1 from by rw [hWb]; simp] at x5
 have HCW:=Lib.hid (fun (w' : World) (hb : Below (Wb.alloc (.cells #[.int .i64 5,.int .i64 n,.int .i64 at_,.string tx,.slice A4 kl.length c4] 66)).heap.size (Wb.alloc (.cells #[.int .i64 5,.int .i64 n,.int .i64 at_,.string tx,.slice A4 kl.length c4] 66)) w') => Kd.C_below (Kd.C_below g4 hbC) hb)
 obtain ⟨W0,hW0⟩ : ∃ W_,W_ = Wb.alloc (.cells #[.int .i64 5,.int .i64 n,.int .i64 at_,.string tx,.slice A4 kl.length c4] 66):=⟨_,rfl⟩
 rw [← hW0] at hb0 x3 x5 HCW
 have HB0:=Lib.hid hb0
 have X30:=Lib.hid x3
 have X50:=Lib.hid x5
 have HW0:=Lib.hid hW0
 have HS:=Lib.hid (fun (w' : World) (hb : Below w.heap.size w w') => hS.below hb)
 have HKQ:=Lib.hid hkq
 have hkl:=hkq.2
 have HSZ:=Lib.hid hsz
 have HT0:=Lib.hid ht0
 have HKI:=Lib.hid hKI
 cases eA
 clear h hb0 hbC x3 x5 hW0 hbx g4 hkq hsz hx hKI hk hS
 have HO:=Lib.hid (twice_45 p (some ad) ct ns root ol q h0 h1 5 n at_ tx A4 c4 kl W0 (HS.out W0 HB0.out) HSZ.out (.inr rfl) hown)
 rw [HT0.out]
 obtain ⟨ob,hob⟩ : ∃ ob : Bool,ob = decide ((loF ns ol (rd ol q) ns.length tx.data.toList).getD 0 ≠ q):=⟨_,rfl⟩
 rw [← hob] at HO ⊢
 clear hob
 obtain ⟨R,hR⟩ : ∃ R : Int,R = if ob = true then 4 else 0:=⟨_,rfl⟩
 rw [← hR]
 have HR:=Lib.hid hR
 clear hR
 subst hWb
 go_enter Tryz.func34,Tryz.ntmps34
 go_wp2_with fail
 rw [← HW0.out]
 clear z0 z1 z2 z3 z4 cp0 cb e0 e1
 refine HO.out.mono ?_
 rintro e_ W1 ⟨rfl,hb_⟩
 have HB1:=Lib.hid (zAd (HB0.out) hb_)
 have X31:=Lib.hid (zAe (X30.out) hb_)
 have X51:=Lib.hid (zAe (X50.out) hb_)
 clear hb_
 cases ob with
 | true =>
  have hR : R = 4:=HR.out
  subst hR
  clear HR
  go_wp2_with fail
  go_ret
  exact ⟨rfl,HB1.out⟩
 | false =>
  have hR : R = 0:=HR.out
  subst hR
  clear HR
  go_wp2_with fail
  go_ret
  exact ⟨rfl,HB1.out⟩
theorem check_1 (p : Nat) (At : Option Addr) (ct : Nat) (ns : List S66) (root : Int) (ol : List Int) (q : Int) (h0 : 0 ≤ q) (h1 : q < ns.length) (hk : kdOf ns q = 1) (hKI : KidsIn ns) (w : World) (hS : Sc p At ct ns root ol w) :
  Calls Tryz.prog 34 #[.pointer (some ⟨p,0,none⟩),.int .i64 q] w fun e w' => e = .returned (.int .i64 (0)) ∧ Below w.heap.size w w':=by
 have hmf:=@hmf_ Tryz.prog
 have hkq:=hKI (rd_T66 ns q) (zAA ns q h0 h1)
 have hsz:=KidsIn.size hS h0 h1
 have hbx : Below w.heap.size w (w.alloc (.cells #[.pointer (some ⟨p,0,none⟩)] 87)):=zAa (Below.refl _ _) _
 obtain ⟨Wb,hWb⟩ : ∃ W_,W_ = w.alloc (.cells #[.pointer (some ⟨p,0,none⟩)] 87):=⟨_,rfl⟩
 rw [← hWb] at hbx
 obtain ⟨bo,g,r0,l,Lb,h⟩:=hS.below hbx
 have cp0:=bc_ h.hp 0
 have cb : Wb.cell? ⟨w.heap.size,0,none⟩ = some (.pointer (some ⟨p,0,none⟩)):=by rw [hWb]; exact (zAh (heap_alloc_new w _) 0).trans rfl
 obtain ⟨ad,A4,c4,eA,z0,z1,z2,z3,z4,l4,g4⟩:=at_T66 h.hC q h0 h1
 have e0:=eq_true h0
 have e1:=eq_true h1
 have hk0 : kdOf ns q = (rd_T66 ns q).f0:=rfl
 have ht0 : nmOf ns q = (rd_T66 ns q).f3.data.toList:=rfl
 obtain ⟨x,hx⟩ : ∃ x,x = rd_T66 ns q:=⟨_,rfl⟩
 rw [← hx] at z0 z1 z2 z3 z4 l4 g4 hkq hsz hk0 ht0
 obtain ⟨k,n,at_,tx,kl⟩:=x
 dsimp only at z0 z1 z2 z3 z4 l4 g4 hkq hsz hk0 ht0
 rw [hk] at hk0
 subst hk0
 have x3:=heap_alloc_new w (.cells #[.pointer (some ⟨p,0,none⟩)] 87)
 rw [← hWb] at x3
 have hb0 : Below w.heap.size w (Wb.alloc (.cells #[.int .i64 1,.int .i64 n,.int .i64 at_,.string tx,.slice A4 kl.length c4] 66)):=zAa hbx _
 have hbC : Below Wb.heap.size Wb (Wb.alloc (.cells #[.int .i64 1,.int .i64 n,.int .i64 at_,.string tx,.slice A4 kl.length c4] 66)):=zAa (Below.refl _ _) _
 replace x3:=zAj x3 (.cells #[.int .i64 1,.int .i64 n,.int .i64 at_,.string tx,.slice A4 kl.length c4] 66)
 have x5:=heap_alloc_new Wb (.cells #[.int .i64 1,.int .i64 n,.int .i64 at_,.string tx,.slice A4 kl.length c4] 66)
 rw [show Wb.heap.size = w.heap.size + 1 from by rw [hWb]; simp] at x5
 have HCW:=Lib.hid (fun (w' : World) (hb : Below (Wb.alloc (.cells #[.int .i64 1,.int .i64 n,.int .i64 at_,.string tx,.slice A4 kl.length c4] 66)).heap.size (Wb.alloc (.cells #[.int .i64 1,.int .i64 n,.int .i64 at_,.string tx,.slice A4 kl.length c4] 66)) w') => Kd.C_below (Kd.C_below g4 hbC) hb)
 obtain ⟨W0,hW0⟩ : ∃ W_,W_ = Wb.alloc (.cells #[.int .i64 1,.int .i64 n,.int .i64 at_,.string tx,.slice A4 kl.length c4] 66):=⟨_,rfl⟩
 rw [← hW0] at hb0 x3 x5 HCW
 have HB0:=Lib.hid hb0
 have X30:=Lib.hid x3
 have X50:=Lib.hid x5
 have HW0:=Lib.hid hW0
 have HS:=Lib.hid (fun (w' : World) (hb : Below w.heap.size w w') => hS.below hb)
 have HKQ:=Lib.hid hkq
 have hkl:=hkq.2
 have HSZ:=Lib.hid hsz
 have HT0:=Lib.hid ht0
 have HKI:=Lib.hid hKI
 cases eA
 clear h hb0 hbC x3 x5 hW0 hbx g4 hkq hsz hx hKI hk hS
 subst hWb
 go_enter Tryz.func34,Tryz.ntmps34
 go_wp2_with fail
 go_ret
 exact ⟨rfl,by rw [← HW0.out]; exact HB0.out⟩
theorem check_6 (p : Nat) (At : Option Addr) (ct : Nat) (ns : List S66) (root : Int) (ol : List Int) (q : Int) (h0 : 0 ≤ q) (h1 : q < ns.length) (hk : kdOf ns q = 6) (hKI : KidsIn ns) (w : World) (hS : Sc p At ct ns root ol w) :
  Calls Tryz.prog 34 #[.pointer (some ⟨p,0,none⟩),.int .i64 q] w fun e w' => e = .returned (.int .i64 (0)) ∧ Below w.heap.size w w':=by
 have hmf:=@hmf_ Tryz.prog
 have hkq:=hKI (rd_T66 ns q) (zAA ns q h0 h1)
 have hsz:=KidsIn.size hS h0 h1
 have hbx : Below w.heap.size w (w.alloc (.cells #[.pointer (some ⟨p,0,none⟩)] 87)):=zAa (Below.refl _ _) _
 obtain ⟨Wb,hWb⟩ : ∃ W_,W_ = w.alloc (.cells #[.pointer (some ⟨p,0,none⟩)] 87):=⟨_,rfl⟩
 rw [← hWb] at hbx
 obtain ⟨bo,g,r0,l,Lb,h⟩:=hS.below hbx
 have cp0:=bc_ h.hp 0
 have cb : Wb.cell? ⟨w.heap.size,0,none⟩ = some (.pointer (some ⟨p,0,none⟩)):=by rw [hWb]; exact (zAh (heap_alloc_new w _) 0).trans rfl
 obtain ⟨ad,A4,c4,eA,z0,z1,z2,z3,z4,l4,g4⟩:=at_T66 h.hC q h0 h1
 have e0:=eq_true h0
 have e1:=eq_true h1
 have hk0 : kdOf ns q = (rd_T66 ns q).f0:=rfl
 have ht0 : nmOf ns q = (rd_T66 ns q).f3.data.toList:=rfl
 obtain ⟨x,hx⟩ : ∃ x,x = rd_T66 ns q:=⟨_,rfl⟩
 rw [← hx] at z0 z1 z2 z3 z4 l4 g4 hkq hsz hk0 ht0
 obtain ⟨k,n,at_,tx,kl⟩:=x
 dsimp only at z0 z1 z2 z3 z4 l4 g4 hkq hsz hk0 ht0
 rw [hk] at hk0
 subst hk0
 have x3:=heap_alloc_new w (.cells #[.pointer (some ⟨p,0,none⟩)] 87)
 rw [← hWb] at x3
 have hb0 : Below w.heap.size w (Wb.alloc (.cells #[.int .i64 6,.int .i64 n,.int .i64 at_,.string tx,.slice A4 kl.length c4] 66)):=zAa hbx _
 have hbC : Below Wb.heap.size Wb (Wb.alloc (.cells #[.int .i64 6,.int .i64 n,.int .i64 at_,.string tx,.slice A4 kl.length c4] 66)):=zAa (Below.refl _ _) _
 replace x3:=zAj x3 (.cells #[.int .i64 6,.int .i64 n,.int .i64 at_,.string tx,.slice A4 kl.length c4] 66)
 have x5:=heap_alloc_new Wb (.cells #[.int .i64 6,.int .i64 n,.int .i64 at_,.string tx,.slice A4 kl.length c4] 66)
 rw [show Wb.heap.size = w.heap.size + 1 from by rw [hWb]; simp] at x5
 have HCW:=Lib.hid (fun (w' : World) (hb : Below (Wb.alloc (.cells #[.int .i64 6,.int .i64 n,.int .i64 at_,.string tx,.slice A4 kl.length c4] 66)).heap.size (Wb.alloc (.cells #[.int .i64 6,.int .i64 n,.int .i64 at_,.string tx,.slice A4 kl.length c4] 66)) w') => Kd.C_below (Kd.C_below g4 hbC) hb)
 obtain ⟨W0,hW0⟩ : ∃ W_,W_ = Wb.alloc (.cells #[.int .i64 6,.int .i64 n,.int .i64 at_,.string tx,.slice A4 kl.length c4] 66):=⟨_,rfl⟩
 rw [← hW0] at hb0 x3 x5 HCW
 have HB0:=Lib.hid hb0
 have X30:=Lib.hid x3
 have X50:=Lib.hid x5
 have HW0:=Lib.hid hW0
 have HS:=Lib.hid (fun (w' : World) (hb : Below w.heap.size w w') => hS.below hb)
 have HKQ:=Lib.hid hkq
 have hkl:=hkq.2
 have HSZ:=Lib.hid hsz
 have HT0:=Lib.hid ht0
 have HKI:=Lib.hid hKI
 cases eA
 clear h hb0 hbC x3 x5 hW0 hbx g4 hkq hsz hx hKI hk hS
 subst hWb
 go_enter Tryz.func34,Tryz.ntmps34
 go_wp2_with fail
 go_ret
 exact ⟨rfl,by rw [← HW0.out]; exact HB0.out⟩
theorem check_18 (p : Nat) (At : Option Addr) (ct : Nat) (ns : List S66) (root : Int) (ol : List Int) (q : Int) (h0 : 0 ≤ q) (h1 : q < ns.length) (hk : kdOf ns q = 18) (hKI : KidsIn ns) (w : World) (hS : Sc p At ct ns root ol w) :
  Calls Tryz.prog 34 #[.pointer (some ⟨p,0,none⟩),.int .i64 q] w fun e w' => e = .returned (.int .i64 (0)) ∧ Below w.heap.size w w':=by
 have hmf:=@hmf_ Tryz.prog
 have hkq:=hKI (rd_T66 ns q) (zAA ns q h0 h1)
 have hsz:=KidsIn.size hS h0 h1
 have hbx : Below w.heap.size w (w.alloc (.cells #[.pointer (some ⟨p,0,none⟩)] 87)):=zAa (Below.refl _ _) _
 obtain ⟨Wb,hWb⟩ : ∃ W_,W_ = w.alloc (.cells #[.pointer (some ⟨p,0,none⟩)] 87):=⟨_,rfl⟩
 rw [← hWb] at hbx
 obtain ⟨bo,g,r0,l,Lb,h⟩:=hS.below hbx
 have cp0:=bc_ h.hp 0
 have cb : Wb.cell? ⟨w.heap.size,0,none⟩ = some (.pointer (some ⟨p,0,none⟩)):=by rw [hWb]; exact (zAh (heap_alloc_new w _) 0).trans rfl
 obtain ⟨ad,A4,c4,eA,z0,z1,z2,z3,z4,l4,g4⟩:=at_T66 h.hC q h0 h1
 have e0:=eq_true h0
 have e1:=eq_true h1
 have hk0 : kdOf ns q = (rd_T66 ns q).f0:=rfl
 have ht0 : nmOf ns q = (rd_T66 ns q).f3.data.toList:=rfl
 obtain ⟨x,hx⟩ : ∃ x,x = rd_T66 ns q:=⟨_,rfl⟩
 rw [← hx] at z0 z1 z2 z3 z4 l4 g4 hkq hsz hk0 ht0
 obtain ⟨k,n,at_,tx,kl⟩:=x
 dsimp only at z0 z1 z2 z3 z4 l4 g4 hkq hsz hk0 ht0
 rw [hk] at hk0
 subst hk0
 have x3:=heap_alloc_new w (.cells #[.pointer (some ⟨p,0,none⟩)] 87)
 rw [← hWb] at x3
 have hb0 : Below w.heap.size w (Wb.alloc (.cells #[.int .i64 18,.int .i64 n,.int .i64 at_,.string tx,.slice A4 kl.length c4] 66)):=zAa hbx _
 have hbC : Below Wb.heap.size Wb (Wb.alloc (.cells #[.int .i64 18,.int .i64 n,.int .i64 at_,.string tx,.slice A4 kl.length c4] 66)):=zAa (Below.refl _ _) _
 replace x3:=zAj x3 (.cells #[.int .i64 18,.int .i64 n,.int .i64 at_,.string tx,.slice A4 kl.length c4] 66)
 have x5:=heap_alloc_new Wb (.cells #[.int .i64 18,.int .i64 n,.int .i64 at_,.string tx,.slice A4 kl.length c4] 66)
 rw [show Wb.heap.size = w.heap.size + 1 from by rw [hWb]; simp] at x5
 have HCW:=Lib.hid (fun (w' : World) (hb : Below (Wb.alloc (.cells #[.int .i64 18,.int .i64 n,.int .i64 at_,.string tx,.slice A4 kl.length c4] 66)).heap.size (Wb.alloc (.cells #[.int .i64 18,.int .i64 n,.int .i64 at_,.string tx,.slice A4 kl.length c4] 66)) w') => Kd.C_below (Kd.C_below g4 hbC) hb)
 obtain ⟨W0,hW0⟩ : ∃ W_,W_ = Wb.alloc (.cells #[.int .i64 18,.int .i64 n,.int .i64 at_,.string tx,.slice A4 kl.length c4] 66):=⟨_,rfl⟩
 rw [← hW0] at hb0 x3 x5 HCW
 have HB0:=Lib.hid hb0
 have X30:=Lib.hid x3
 have X50:=Lib.hid x5
 have HW0:=Lib.hid hW0
 have HS:=Lib.hid (fun (w' : World) (hb : Below w.heap.size w w') => hS.below hb)
 have HKQ:=Lib.hid hkq
 have hkl:=hkq.2
 have HSZ:=Lib.hid hsz
 have HT0:=Lib.hid ht0
 have HKI:=Lib.hid hKI
 cases eA
 clear h hb0 hbC x3 x5 hW0 hbx g4 hkq hsz hx hKI hk hS
 subst hWb
 go_enter Tryz.func34,Tryz.ntmps34
 go_wp2_with fail
 go_ret
 exact ⟨rfl,by rw [← HW0.out]; exact HB0.out⟩
theorem check_19 (p : Nat) (At : Option Addr) (ct : Nat) (ns : List S66) (root : Int) (ol : List Int) (q : Int) (h0 : 0 ≤ q) (h1 : q < ns.length) (hk : kdOf ns q = 19) (hKI : KidsIn ns) (w : World) (hS : Sc p At ct ns root ol w) :
  Calls Tryz.prog 34 #[.pointer (some ⟨p,0,none⟩),.int .i64 q] w fun e w' => e = .returned (.int .i64 (0)) ∧ Below w.heap.size w w':=by
 have hmf:=@hmf_ Tryz.prog
 have hkq:=hKI (rd_T66 ns q) (zAA ns q h0 h1)
 have hsz:=KidsIn.size hS h0 h1
 have hbx : Below w.heap.size w (w.alloc (.cells #[.pointer (some ⟨p,0,none⟩)] 87)):=zAa (Below.refl _ _) _
 obtain ⟨Wb,hWb⟩ : ∃ W_,W_ = w.alloc (.cells #[.pointer (some ⟨p,0,none⟩)] 87):=⟨_,rfl⟩
 rw [← hWb] at hbx
 obtain ⟨bo,g,r0,l,Lb,h⟩:=hS.below hbx
 have cp0:=bc_ h.hp 0
 have cb : Wb.cell? ⟨w.heap.size,0,none⟩ = some (.pointer (some ⟨p,0,none⟩)):=by rw [hWb]; exact (zAh (heap_alloc_new w _) 0).trans rfl
 obtain ⟨ad,A4,c4,eA,z0,z1,z2,z3,z4,l4,g4⟩:=at_T66 h.hC q h0 h1
 have e0:=eq_true h0
 have e1:=eq_true h1
 have hk0 : kdOf ns q = (rd_T66 ns q).f0:=rfl
 have ht0 : nmOf ns q = (rd_T66 ns q).f3.data.toList:=rfl
 obtain ⟨x,hx⟩ : ∃ x,x = rd_T66 ns q:=⟨_,rfl⟩
 rw [← hx] at z0 z1 z2 z3 z4 l4 g4 hkq hsz hk0 ht0
 obtain ⟨k,n,at_,tx,kl⟩:=x
 dsimp only at z0 z1 z2 z3 z4 l4 g4 hkq hsz hk0 ht0
 rw [hk] at hk0
 subst hk0
 have x3:=heap_alloc_new w (.cells #[.pointer (some ⟨p,0,none⟩)] 87)
 rw [← hWb] at x3
 have hb0 : Below w.heap.size w (Wb.alloc (.cells #[.int .i64 19,.int .i64 n,.int .i64 at_,.string tx,.slice A4 kl.length c4] 66)):=zAa hbx _
 have hbC : Below Wb.heap.size Wb (Wb.alloc (.cells #[.int .i64 19,.int .i64 n,.int .i64 at_,.string tx,.slice A4 kl.length c4] 66)):=zAa (Below.refl _ _) _
 replace x3:=zAj x3 (.cells #[.int .i64 19,.int .i64 n,.int .i64 at_,.string tx,.slice A4 kl.length c4] 66)
 have x5:=heap_alloc_new Wb (.cells #[.int .i64 19,.int .i64 n,.int .i64 at_,.string tx,.slice A4 kl.length c4] 66)
 rw [show Wb.heap.size = w.heap.size + 1 from by rw [hWb]; simp] at x5
 have HCW:=Lib.hid (fun (w' : World) (hb : Below (Wb.alloc (.cells #[.int .i64 19,.int .i64 n,.int .i64 at_,.string tx,.slice A4 kl.length c4] 66)).heap.size (Wb.alloc (.cells #[.int .i64 19,.int .i64 n,.int .i64 at_,.string tx,.slice A4 kl.length c4] 66)) w') => Kd.C_below (Kd.C_below g4 hbC) hb)
 obtain ⟨W0,hW0⟩ : ∃ W_,W_ = Wb.alloc (.cells #[.int .i64 19,.int .i64 n,.int .i64 at_,.string tx,.slice A4 kl.length c4] 66):=⟨_,rfl⟩
 rw [← hW0] at hb0 x3 x5 HCW
 have HB0:=Lib.hid hb0
 have X30:=Lib.hid x3
 have X50:=Lib.hid x5
 have HW0:=Lib.hid hW0
 have HS:=Lib.hid (fun (w' : World) (hb : Below w.heap.size w w') => hS.below hb)
 have HKQ:=Lib.hid hkq
 have hkl:=hkq.2
 have HSZ:=Lib.hid hsz
 have HT0:=Lib.hid ht0
 have HKI:=Lib.hid hKI
 cases eA
 clear h hb0 hbC x3 x5 hW0 hbx g4 hkq hsz hx hKI hk hS
 subst hWb
 go_enter Tryz.func34,Tryz.ntmps34
 go_wp2_with fail
 go_ret
 exact ⟨rfl,by rw [← HW0.out]; exact HB0.out⟩
theorem check_20 (p : Nat) (At : Option Addr) (ct : Nat) (ns : List S66) (root : Int) (ol : List Int) (q : Int) (h0 : 0 ≤ q) (h1 : q < ns.length) (hk : kdOf ns q = 20) (hKI : KidsIn ns) (w : World) (hS : Sc p At ct ns root ol w) :
  Calls Tryz.prog 34 #[.pointer (some ⟨p,0,none⟩),.int .i64 q] w fun e w' => e = .returned (.int .i64 (0)) ∧ Below w.heap.size w w':=by
 have hmf:=@hmf_ Tryz.prog
 have hkq:=hKI (rd_T66 ns q) (zAA ns q h0 h1)
 have hsz:=KidsIn.size hS h0 h1
 have hbx : Below w.heap.size w (w.alloc (.cells #[.pointer (some ⟨p,0,none⟩)] 87)):=zAa (Below.refl _ _) _
 obtain ⟨Wb,hWb⟩ : ∃ W_,W_ = w.alloc (.cells #[.pointer (some ⟨p,0,none⟩)] 87):=⟨_,rfl⟩
 rw [← hWb] at hbx
 obtain ⟨bo,g,r0,l,Lb,h⟩:=hS.below hbx
 have cp0:=bc_ h.hp 0
 have cb : Wb.cell? ⟨w.heap.size,0,none⟩ = some (.pointer (some ⟨p,0,none⟩)):=by rw [hWb]; exact (zAh (heap_alloc_new w _) 0).trans rfl
 obtain ⟨ad,A4,c4,eA,z0,z1,z2,z3,z4,l4,g4⟩:=at_T66 h.hC q h0 h1
 have e0:=eq_true h0
 have e1:=eq_true h1
 have hk0 : kdOf ns q = (rd_T66 ns q).f0:=rfl
 have ht0 : nmOf ns q = (rd_T66 ns q).f3.data.toList:=rfl
 obtain ⟨x,hx⟩ : ∃ x,x = rd_T66 ns q:=⟨_,rfl⟩
 rw [← hx] at z0 z1 z2 z3 z4 l4 g4 hkq hsz hk0 ht0
 obtain ⟨k,n,at_,tx,kl⟩:=x
 dsimp only at z0 z1 z2 z3 z4 l4 g4 hkq hsz hk0 ht0
 rw [hk] at hk0
 subst hk0
 have x3:=heap_alloc_new w (.cells #[.pointer (some ⟨p,0,none⟩)] 87)
 rw [← hWb] at x3
 have hb0 : Below w.heap.size w (Wb.alloc (.cells #[.int .i64 20,.int .i64 n,.int .i64 at_,.string tx,.slice A4 kl.length c4] 66)):=zAa hbx _
 have hbC : Below Wb.heap.size Wb (Wb.alloc (.cells #[.int .i64 20,.int .i64 n,.int .i64 at_,.string tx,.slice A4 kl.length c4] 66)):=zAa (Below.refl _ _) _
 replace x3:=zAj x3 (.cells #[.int .i64 20,.int .i64 n,.int .i64 at_,.string tx,.slice A4 kl.length c4] 66)
 have x5:=heap_alloc_new Wb (.cells #[.int .i64 20,.int .i64 n,.int .i64 at_,.string tx,.slice A4 kl.length c4] 66)
 rw [show Wb.heap.size = w.heap.size + 1 from by rw [hWb]; simp] at x5
 have HCW:=Lib.hid (fun (w' : World) (hb : Below (Wb.alloc (.cells #[.int .i64 20,.int .i64 n,.int .i64 at_,.string tx,.slice A4 kl.length c4] 66)).heap.size (Wb.alloc (.cells #[.int .i64 20,.int .i64 n,.int .i64 at_,.string tx,.slice A4 kl.length c4] 66)) w') => Kd.C_below (Kd.C_below g4 hbC) hb)
 obtain ⟨W0,hW0⟩ : ∃ W_,W_ = Wb.alloc (.cells #[.int .i64 20,.int .i64 n,.int .i64 at_,.string tx,.slice A4 kl.length c4] 66):=⟨_,rfl⟩
 rw [← hW0] at hb0 x3 x5 HCW
 have HB0:=Lib.hid hb0
 have X30:=Lib.hid x3
 have X50:=Lib.hid x5
 have HW0:=Lib.hid hW0
 have HS:=Lib.hid (fun (w' : World) (hb : Below w.heap.size w w') => hS.below hb)
 have HKQ:=Lib.hid hkq
 have hkl:=hkq.2
 have HSZ:=Lib.hid hsz
 have HT0:=Lib.hid ht0
 have HKI:=Lib.hid hKI
 cases eA
 clear h hb0 hbC x3 x5 hW0 hbx g4 hkq hsz hx hKI hk hS
 subst hWb
 go_enter Tryz.func34,Tryz.ntmps34
 go_wp2_with fail
 go_ret
 exact ⟨rfl,by rw [← HW0.out]; exact HB0.out⟩
theorem check_21 (p : Nat) (At : Option Addr) (ct : Nat) (ns : List S66) (root : Int) (ol : List Int) (q : Int) (h0 : 0 ≤ q) (h1 : q < ns.length) (hk : kdOf ns q = 21) (hKI : KidsIn ns) (w : World) (hS : Sc p At ct ns root ol w) :
  Calls Tryz.prog 34 #[.pointer (some ⟨p,0,none⟩),.int .i64 q] w fun e w' => e = .returned (.int .i64 (0)) ∧ Below w.heap.size w w':=by
 have hmf:=@hmf_ Tryz.prog
 have hkq:=hKI (rd_T66 ns q) (zAA ns q h0 h1)
 have hsz:=KidsIn.size hS h0 h1
 have hbx : Below w.heap.size w (w.alloc (.cells #[.pointer (some ⟨p,0,none⟩)] 87)):=zAa (Below.refl _ _) _
 obtain ⟨Wb,hWb⟩ : ∃ W_,W_ = w.alloc (.cells #[.pointer (some ⟨p,0,none⟩)] 87):=⟨_,rfl⟩
 rw [← hWb] at hbx
 obtain ⟨bo,g,r0,l,Lb,h⟩:=hS.below hbx
 have cp0:=bc_ h.hp 0
 have cb : Wb.cell? ⟨w.heap.size,0,none⟩ = some (.pointer (some ⟨p,0,none⟩)):=by rw [hWb]; exact (zAh (heap_alloc_new w _) 0).trans rfl
 obtain ⟨ad,A4,c4,eA,z0,z1,z2,z3,z4,l4,g4⟩:=at_T66 h.hC q h0 h1
 have e0:=eq_true h0
 have e1:=eq_true h1
 have hk0 : kdOf ns q = (rd_T66 ns q).f0:=rfl
 have ht0 : nmOf ns q = (rd_T66 ns q).f3.data.toList:=rfl
 obtain ⟨x,hx⟩ : ∃ x,x = rd_T66 ns q:=⟨_,rfl⟩
 rw [← hx] at z0 z1 z2 z3 z4 l4 g4 hkq hsz hk0 ht0
 obtain ⟨k,n,at_,tx,kl⟩:=x
 dsimp only at z0 z1 z2 z3 z4 l4 g4 hkq hsz hk0 ht0
 rw [hk] at hk0
 subst hk0
 have x3:=heap_alloc_new w (.cells #[.pointer (some ⟨p,0,none⟩)] 87)
 rw [← hWb] at x3
 have hb0 : Below w.heap.size w (Wb.alloc (.cells #[.int .i64 21,.int .i64 n,.int .i64 at_,.string tx,.slice A4 kl.length c4] 66)):=zAa hbx _
 have hbC : Below Wb.heap.size Wb (Wb.alloc (.cells #[.int .i64 21,.int .i64 n,.int .i64 at_,.string tx,.slice A4 kl.length c4] 66)):=zAa (Below.refl _ _) _
 replace x3:=zAj x3 (.cells #[.int .i64 21,.int .i64 n,.int .i64 at_,.string tx,.slice A4 kl.length c4] 66)
 have x5:=heap_alloc_new Wb (.cells #[.int .i64 21,.int .i64 n,.int .i64 at_,.string tx,.slice A4 kl.length c4] 66)
 rw [show Wb.heap.size = w.heap.size + 1 from by rw [hWb]; simp] at x5
 have HCW:=Lib.hid (fun (w' : World) (hb : Below (Wb.alloc (.cells #[.int .i64 21,.int .i64 n,.int .i64 at_,.string tx,.slice A4 kl.length c4] 66)).heap.size (Wb.alloc (.cells #[.int .i64 21,.int .i64 n,.int .i64 at_,.string tx,.slice A4 kl.length c4] 66)) w') => Kd.C_below (Kd.C_below g4 hbC) hb)
 obtain ⟨W0,hW0⟩ : ∃ W_,W_ = Wb.alloc (.cells #[.int .i64 21,.int .i64 n,.int .i64 at_,.string tx,.slice A4 kl.length c4] 66):=⟨_,rfl⟩
 rw [← hW0] at hb0 x3 x5 HCW
 have HB0:=Lib.hid hb0
 have X30:=Lib.hid x3
 have X50:=Lib.hid x5
 have HW0:=Lib.hid hW0
 have HS:=Lib.hid (fun (w' : World) (hb : Below w.heap.size w w') => hS.below hb)
 have HKQ:=Lib.hid hkq
 have hkl:=hkq.2
 have HSZ:=Lib.hid hsz
 have HT0:=Lib.hid ht0
 have HKI:=Lib.hid hKI
 cases eA
 clear h hb0 hbC x3 x5 hW0 hbx g4 hkq hsz hx hKI hk hS
 subst hWb
 go_enter Tryz.func34,Tryz.ntmps34
 go_wp2_with fail
 go_ret
 exact ⟨rfl,by rw [← HW0.out]; exact HB0.out⟩
end Go.Proofs.YtkhlfdcjgooogaaGreat.P
