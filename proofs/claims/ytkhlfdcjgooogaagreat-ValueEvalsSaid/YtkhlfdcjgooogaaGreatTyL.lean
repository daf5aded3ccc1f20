import Derived.Test.YtkhlfdcjgooogaaGreatWMore
import Derived.Test.YtkhlfdcjgooogaaGreatTyK
set_option maxRecDepth 100000
set_option maxHeartbeats 16000000
set_option linter.unusedVariables false
set_option linter.unusedSimpArgs false
set_option linter.unusedSectionVars false
namespace Go.Proofs.YtkhlfdcjgooogaaGreat.P
open Go.RowKit Go.Proofs.YtkhlfdcjgooogaaGreatW.PrintWords Go.Proofs.YtkhlfdcjgooogaaGreatW.PrintLast Go.Proofs.YtkhlfdcjgooogaaGreatW.PrintMore
section
variable {P : Program} {ops : Array Oper} {Q : Exit → Act → World → Prop}
theorem goesV_ {oi : Oper} {N : Option Tmp} {a : Act} {w : World} {K : Act → World → Prop} {f : FuncId} {fn : Func} {t : Tmp} {cap : Array Value} {xs_ : Array Operand} {ts : Array TypeId} (hf : P.funcs[f]? = some fn) (hname : (fn.name == "runtime.NumGoroutine") = false) (hb : fn.body.isSome = true) (args : Array Value)
  (hw : Region.wanted oi (yielded ops a.tmps) = true) (hN : oi.dst = N) (hop : oi.op = .call { callee:=.value (.tmp t),args:=xs_,argTypes:=ts }) (ho : a.tmps.getD t undef = .func (.func f) #[] cap) (hargs : xs_.map a.eval ++ cap = args)
  (h : Calls P f args w fun e w' => ∃ v,e = .returned v ∧ K (a.put N v) w') : if Region.wanted oi (yielded ops a.tmps) = true then Oper.wp P oi a w K Q else K (a.put N undef) w:=by
 refine call_ f args hw hN ?_ h
 have he:=enters_ hf hname hb args w
 unfold execOp
 have ho2 : a.tmps[t]?.getD undef = .func (.func f) #[] cap:=by rw [← ho]; simp
 have ha2 : Array.map (Act.eval a) xs_ ++ cap = args:=hargs
 simp only [hop,resolve,Deferred.ofValue,invoke]
 simp only [Act.eval,Array.getD_eq_getD_getElem?,ho2]
 simp [Act.eval,← hargs] at he ⊢
 exact he
end
theorem check_22 (p : Nat) (At : Option Addr) (ct : Nat) (ns : List S66) (root : Int) (ol : List Int) (q : Int) (h0 : 0 ≤ q) (h1 : q < ns.length) (hk : kdOf ns q = 22) (hKI : KidsIn ns) (w : World) (hS : Sc p At ct ns root ol w) :
  Calls Tryz.prog 34 #[.pointer (some ⟨p,0,none⟩),.int .i64 q] w fun e w' => e = .returned (.int .i64 (namedF ns ol q true)) ∧ Below w.heap.size w w':=by
 have hmf:=@hmf_ Tryz.prog
 have hkq:=hKI (rd_T66 ns q) (zAA ns q h0 h1)
 have hsz:=KidsIn.size hS h0 h1
 have hbx : Below w.heap.size w (w.alloc (.cells #[.pointer (some ⟨p,0,none⟩)] 87)):=zAa (Below.refl _ _) _
 obtain ⟨Wb,hWb⟩ : ∃ W_,W_ = w.alloc (.cells #[.pointer (some ⟨p,0,none⟩)] 87):=⟨_,rfl⟩
 rw [← hWb] at hbx
 obtain ⟨bo,g,r0,l,Lb,h⟩:=hS.below hbx
 have cp0:=bc_ h.hp 0
 have cb : Wb.cell? ⟨w.heap.size,0,none⟩ = some (.pointer (some ⟨p,0,none⟩)):=by rw [hWb]; exact (zAh (heap_alloc_new w _) 0).trans rfl
 obtain ⟨ad,A4,c4,eA,z0,z1,z2,z3,z4,l4,g4⟩:=at_T66 h.hC q h0 h1
 have e0:=eq_true h0
 have e1:=eq_true h1
 have hk0 : kdOf ns q = (rd_T66 ns q).f0:=rfl
 have ht0 : nmOf ns q = (rd_T66 ns q).f3.data.toList:=rfl
 obtain ⟨x,hx⟩ : ∃ x,x = rd_T66 ns q:=⟨_,rfl⟩
 rw [← hx] at z0 z1 z2 z3 z4 l4 g4 hkq hsz hk0 ht0
 obtain ⟨k,n,at_,tx,kl⟩:=x
 dsimp only at z0 z1 z2 z3 z4 l4 g4 hkq hsz hk0 ht0
 rw [hk] at hk0
 subst hk0
 have x3:=heap_alloc_new w (.cells #[.pointer (some ⟨p,0,none⟩)] 87)
 rw [← hWb] at x3
 have hb0 : Below w.heap.size w (Wb.alloc (.cells #[.int .i64 22,.int .i64 n,.int .i64 at_,.string tx,.slice A4 kl.length c4] 66)):=zAa hbx _
 have hbC : Below Wb.heap.size Wb (Wb.alloc (.cells #[.int .i64 22,.int .i64 n,.int .i64 at_,.string tx,.slice A4 kl.length c4] 66)):=zAa (Below.refl _ _) _
 replace x3:=zAj x3 (.cells #[.int .i64 22,.int .i64 n,.int .i64 at_,.string tx,.slice A4 kl.length c4] 66)
 have x5:=heap_alloc_new Wb (.cells #[.int .i64 22,.int .i64 n,.int .i64 at_,.string tx,.slice A4 kl.length c4] 66)
 rw [show Wb.heap.size = w.heap.size + 1 from by rw [hWb]; simp] at x5
 have HCW:=Lib.hid (fun (w' : World) (hb : Below (Wb.alloc (.cells #[.int .i64 22,.int .i64 n,.int .i64 at_,.string tx,.slice A4 kl.length c4] 66)).heap.size (Wb.alloc (.cells #[.int .i64 22,.int .i64 n,.int .i64 at_,.string tx,.slice A4 kl.length c4] 66)) w') => Kd.C_below (Kd.C_below g4 hbC) hb)
 obtain ⟨W0,hW0⟩ : ∃ W_,W_ = Wb.alloc (.cells #[.int .i64 22,.int .i64 n,.int .i64 at_,.string tx,.slice A4 kl.length c4] 66):=⟨_,rfl⟩
 rw [← hW0] at hb0 x3 x5 HCW
 have HB0:=Lib.hid hb0
 have X30:=Lib.hid x3
 have X50:=Lib.hid x5
 have HW0:=Lib.hid hW0
 have HS:=Lib.hid (fun (w' : World) (hb : Below w.heap.size w w') => hS.below hb)
 have HKQ:=Lib.hid hkq
 have hkl:=hkq.2
 have HSZ:=Lib.hid hsz
 have HT0:=Lib.hid ht0
 have HKI:=Lib.hid hKI
 cases eA
 clear h hb0 hbC x3 x5 hW0 hbx g4 hkq hsz hx hKI hk hS
 obtain ⟨R,hR⟩ : ∃ R,R = namedF ns ol q (true):=⟨_,rfl⟩
 rw [← hR]
 have HN:=Lib.hid (named_any p (some ad) ct ns root ol q h0 h1 (true) W0 (HS.out W0 HB0.out) (fun w' _ => tany_calls _ w'))
 rw [← hR] at HN
 clear hR
 subst hWb
 go_enter Tryz.func34,Tryz.ntmps34
 go_wp2_with fail
 rw [← HW0.out]
 clear z0 z1 z2 z3 z4 cp0 cb e0 e1
 refine HN.out.mono ?_
 rintro e_ W1 ⟨rfl,hb_⟩
 have HB1:=Lib.hid (zAd (HB0.out) hb_)
 have X31:=Lib.hid (zAe (X30.out) hb_)
 have X51:=Lib.hid (zAe (X50.out) hb_)
 clear hb_
 go_wp2_with fail
 go_ret
 exact ⟨rfl,HB1.out⟩
theorem check_23 (p : Nat) (At : Option Addr) (ct : Nat) (ns : List S66) (root : Int) (ol : List Int) (q : Int) (h0 : 0 ≤ q) (h1 : q < ns.length) (hk : kdOf ns q = 23) (hKI : KidsIn ns) (w : World) (hS : Sc p At ct ns root ol w) :
  Calls Tryz.prog 34 #[.pointer (some ⟨p,0,none⟩),.int .i64 q] w fun e w' => e = .returned (.int .i64 (namedF ns ol q (kindF ns ol q (nmOf ns q) == 3 && allF ns ol 1 (rd_T66 ns q).f4))) ∧ Below w.heap.size w w':=by
 have hmf:=@hmf_ Tryz.prog
 have hkq:=hKI (rd_T66 ns q) (zAA ns q h0 h1)
 have hsz:=KidsIn.size hS h0 h1
 have hbx : Below w.heap.size w (w.alloc (.cells #[.pointer (some ⟨p,0,none⟩)] 87)):=zAa (Below.refl _ _) _
 obtain ⟨Wb,hWb⟩ : ∃ W_,W_ = w.alloc (.cells #[.pointer (some ⟨p,0,none⟩)] 87):=⟨_,rfl⟩
 rw [← hWb] at hbx
 obtain ⟨bo,g,r0,l,Lb,h⟩:=hS.below hbx
 have cp0:=bc_ h.hp 0
 have cb : Wb.cell? ⟨w.heap.size,0,none⟩ = some (.pointer (some ⟨p,0,none⟩)):=by rw [hWb]; exact (zAh (heap_alloc_new w _) 0).trans rfl
 obtain ⟨ad,A4,c4,eA,z0,z1,z2,z3,z4,l4,g4⟩:=at_T66 h.hC q h0 h1
 have e0:=eq_true h0
 have e1:=eq_true h1
 have hk0 : kdOf ns q = (rd_T66 ns q).f0:=rfl
 have ht0 : nmOf ns q = (rd_T66 ns q).f3.data.toList:=rfl
 obtain ⟨x,hx⟩ : ∃ x,x = rd_T66 ns q:=⟨_,rfl⟩
 rw [← hx] at z0 z1 z2 z3 z4 l4 g4 hkq hsz hk0 ht0 ⊢
 obtain ⟨k,n,at_,tx,kl⟩:=x
 dsimp only at z0 z1 z2 z3 z4 l4 g4 hkq hsz hk0 ht0 ⊢
 rw [hk] at hk0
 subst hk0
 have x3:=heap_alloc_new w (.cells #[.pointer (some ⟨p,0,none⟩)] 87)
 rw [← hWb] at x3
 have hb0 : Below w.heap.size w (Wb.alloc (.cells #[.int .i64 23,.int .i64 n,.int .i64 at_,.string tx,.slice A4 kl.length c4] 66)):=zAa hbx _
 have hbC : Below Wb.heap.size Wb (Wb.alloc (.cells #[.int .i64 23,.int .i64 n,.int .i64 at_,.string tx,.slice A4 kl.length c4] 66)):=zAa (Below.refl _ _) _
 replace x3:=zAj x3 (.cells #[.int .i64 23,.int .i64 n,.int .i64 at_,.string tx,.slice A4 kl.length c4] 66)
 have x5:=heap_alloc_new Wb (.cells #[.int .i64 23,.int .i64 n,.int .i64 at_,.string tx,.slice A4 kl.length c4] 66)
 rw [show Wb.heap.size = w.heap.size + 1 from by rw [hWb]; simp] at x5
 have HCW:=Lib.hid (fun (w' : World) (hb : Below (Wb.alloc (.cells #[.int .i64 23,.int .i64 n,.int .i64 at_,.string tx,.slice A4 kl.length c4] 66)).heap.size (Wb.alloc (.cells #[.int .i64 23,.int .i64 n,.int .i64 at_,.string tx,.slice A4 kl.length c4] 66)) w') => Kd.C_below (Kd.C_below g4 hbC) hb)
 obtain ⟨W0,hW0⟩ : ∃ W_,W_ = Wb.alloc (.cells #[.int .i64 23,.int .i64 n,.int .i64 at_,.string tx,.slice A4 kl.length c4] 66):=⟨_,rfl⟩
 rw [← hW0] at hb0 x3 x5 HCW
 have HB0:=Lib.hid hb0
 have X30:=Lib.hid x3
 have X50:=Lib.hid x5
 have HW0:=Lib.hid hW0
 have HS:=Lib.hid (fun (w' : World) (hb : Below w.heap.size w w') => hS.below hb)
 have HKQ:=Lib.hid hkq
 have hkl:=hkq.2
 have HSZ:=Lib.hid hsz
 have HT0:=Lib.hid ht0
 have HKI:=Lib.hid hKI
 cases eA
 clear h hb0 hbC x3 x5 hW0 hbx g4 hkq hsz hx hKI hk hS
 obtain ⟨R,hR⟩ : ∃ R,R = namedF ns ol q (kindF ns ol q (nmOf ns q) == 3 && allF ns ol 1 kl):=⟨_,rfl⟩
 rw [← hR]
 have HN:=Lib.hid (zDe p (some ad) ct ns root ol q h0 h1 w.heap.size (w.heap.size + 1) (kindF ns ol q (nmOf ns q) == 3 && allF ns ol 1 kl) W0 (HS.out W0 HB0.out) (fun w' hb => zCI w.heap.size (w.heap.size + 1) p (some ad) ct ns root ol _ A4 c4 kl HKQ.out.1 HKQ.out.2 w' (HS.out w' (zAd HB0.out hb)) (HCW.out w' hb) l4 ((zAh (zAe X30.out hb) 0).trans rfl) ((zAh (zAe X50.out hb) 4).trans rfl)))
 rw [← hR] at HN
 clear hR
 subst hWb
 go_enter Tryz.func34,Tryz.ntmps34
 go_wp2_with fail
 rw [← HW0.out]
 clear z0 z1 z2 z3 z4 cp0 cb e0 e1
 refine HN.out.mono ?_
 rintro e_ W1 ⟨rfl,hb_⟩
 have HB1:=Lib.hid (zAd (HB0.out) hb_)
 have X31:=Lib.hid (zAe (X30.out) hb_)
 have X51:=Lib.hid (zAe (X50.out) hb_)
 clear hb_
 go_wp2_with fail
 go_ret
 exact ⟨rfl,HB1.out⟩
theorem check_8 (p : Nat) (At : Option Addr) (ct : Nat) (ns : List S66) (root : Int) (ol : List Int) (q : Int) (h0 : 0 ≤ q) (h1 : q < ns.length) (hk : kdOf ns q = 8) (hKI : KidsIn ns) (w : World) (hS : Sc p At ct ns root ol w) :
  Calls Tryz.prog 34 #[.pointer (some ⟨p,0,none⟩),.int .i64 q] w fun e w' => e = .returned (.int .i64 (namedF ns ol q (kindF ns ol q (nmOf ns q) == 3 && allF ns ol 1 (rd_T66 ns q).f4))) ∧ Below w.heap.size w w':=by
 have hmf:=@hmf_ Tryz.prog
 have hkq:=hKI (rd_T66 ns q) (zAA ns q h0 h1)
 have hsz:=KidsIn.size hS h0 h1
 have hbx : Below w.heap.size w (w.alloc (.cells #[.pointer (some ⟨p,0,none⟩)] 87)):=zAa (Below.refl _ _) _
 obtain ⟨Wb,hWb⟩ : ∃ W_,W_ = w.alloc (.cells #[.pointer (some ⟨p,0,none⟩)] 87):=⟨_,rfl⟩
 rw [← hWb] at hbx
 obtain ⟨bo,g,r0,l,Lb,h⟩:=hS.below hbx
 have cp0:=bc_ h.hp 0
 have cb : Wb.cell? ⟨w.heap.size,0,none⟩ = some (.pointer (some ⟨p,0,none⟩)):=by rw [hWb]; exact (zAh (heap_alloc_new w _) 0).trans rfl
 obtain ⟨ad,A4,c4,eA,z0,z1,z2,z3,z4,l4,g4⟩:=at_T66 h.hC q h0 h1
 have e0:=eq_true h0
 have e1:=eq_true h1
 have hk0 : kdOf ns q = (rd_T66 ns q).f0:=rfl
 have ht0 : nmOf ns q = (rd_T66 ns q).f3.data.toList:=rfl
 obtain ⟨x,hx⟩ : ∃ x,x = rd_T66 ns q:=⟨_,rfl⟩
 rw [← hx] at z0 z1 z2 z3 z4 l4 g4 hkq hsz hk0 ht0 ⊢
 obtain ⟨k,n,at_,tx,kl⟩:=x
 dsimp only at z0 z1 z2 z3 z4 l4 g4 hkq hsz hk0 ht0 ⊢
 rw [hk] at hk0
 subst hk0
 have x3:=heap_alloc_new w (.cells #[.pointer (some ⟨p,0,none⟩)] 87)
 rw [← hWb] at x3
 have hb0 : Below w.heap.size w (Wb.alloc (.cells #[.int .i64 8,.int .i64 n,.int .i64 at_,.string tx,.slice A4 kl.length c4] 66)):=zAa hbx _
 have hbC : Below Wb.heap.size Wb (Wb.alloc (.cells #[.int .i64 8,.int .i64 n,.int .i64 at_,.string tx,.slice A4 kl.length c4] 66)):=zAa (Below.refl _ _) _
 replace x3:=zAj x3 (.cells #[.int .i64 8,.int .i64 n,.int .i64 at_,.string tx,.slice A4 kl.length c4] 66)
 have x5:=heap_alloc_new Wb (.cells #[.int .i64 8,.int .i64 n,.int .i64 at_,.string tx,.slice A4 kl.length c4] 66)
 rw [show Wb.heap.size = w.heap.size + 1 from by rw [hWb]; simp] at x5
 have HCW:=Lib.hid (fun (w' : World) (hb : Below (Wb.alloc (.cells #[.int .i64 8,.int .i64 n,.int .i64 at_,.string tx,.slice A4 kl.length c4] 66)).heap.size (Wb.alloc (.cells #[.int .i64 8,.int .i64 n,.int .i64 at_,.string tx,.slice A4 kl.length c4] 66)) w') => Kd.C_below (Kd.C_below g4 hbC) hb)
 obtain ⟨W0,hW0⟩ : ∃ W_,W_ = Wb.alloc (.cells #[.int .i64 8,.int .i64 n,.int .i64 at_,.string tx,.slice A4 kl.length c4] 66):=⟨_,rfl⟩
 rw [← hW0] at hb0 x3 x5 HCW
 have HB0:=Lib.hid hb0
 have X30:=Lib.hid x3
 have X50:=Lib.hid x5
 have HW0:=Lib.hid hW0
 have HS:=Lib.hid (fun (w' : World) (hb : Below w.heap.size w w') => hS.below hb)
 have HKQ:=Lib.hid hkq
 have hkl:=hkq.2
 have HSZ:=Lib.hid hsz
 have HT0:=Lib.hid ht0
 have HKI:=Lib.hid hKI
 cases eA
 clear h hb0 hbC x3 x5 hW0 hbx g4 hkq hsz hx hKI hk hS
 obtain ⟨R,hR⟩ : ∃ R,R = namedF ns ol q (kindF ns ol q (nmOf ns q) == 3 && allF ns ol 1 kl):=⟨_,rfl⟩
 rw [← hR]
 have HN:=Lib.hid (zDe p (some ad) ct ns root ol q h0 h1 w.heap.size (w.heap.size + 1) (kindF ns ol q (nmOf ns q) == 3 && allF ns ol 1 kl) W0 (HS.out W0 HB0.out) (fun w' hb => zCI w.heap.size (w.heap.size + 1) p (some ad) ct ns root ol _ A4 c4 kl HKQ.out.1 HKQ.out.2 w' (HS.out w' (zAd HB0.out hb)) (HCW.out w' hb) l4 ((zAh (zAe X30.out hb) 0).trans rfl) ((zAh (zAe X50.out hb) 4).trans rfl)))
 rw [← hR] at HN
 clear hR
 subst hWb
 go_enter Tryz.func34,Tryz.ntmps34
 go_wp2_with fail
 rw [← HW0.out]
 clear z0 z1 z2 z3 z4 cp0 cb e0 e1
 refine HN.out.mono ?_
 rintro e_ W1 ⟨rfl,hb_⟩
 have HB1:=Lib.hid (zAd (HB0.out) hb_)
 have X31:=Lib.hid (zAe (X30.out) hb_)
 have X51:=Lib.hid (zAe (X50.out) hb_)
 clear hb_
 go_wp2_with fail
 go_ret
 exact ⟨rfl,HB1.out⟩
theorem check_17 (p : Nat) (At : Option Addr) (ct : Nat) (ns : List S66) (root : Int) (ol : List Int) (q : Int) (h0 : 0 ≤ q) (h1 : q < ns.length) (hk : kdOf ns q = 17) (hKI : KidsIn ns) (w : World) (hS : Sc p At ct ns root ol w) :
  Calls Tryz.prog 34 #[.pointer (some ⟨p,0,none⟩),.int .i64 q] w fun e w' => e = .returned (.int .i64 (namedF ns ol q (kindF ns ol q (nmOf ns q) == 3 && allF ns ol 1 (rd_T66 ns q).f4))) ∧ Below w.heap.size w w':=by
 have hmf:=@hmf_ Tryz.prog
 have hkq:=hKI (rd_T66 ns q) (zAA ns q h0 h1)
 have hsz:=KidsIn.size hS h0 h1
 have hbx : Below w.heap.size w (w.alloc (.cells #[.pointer (some ⟨p,0,none⟩)] 87)):=zAa (Below.refl _ _) _
 obtain ⟨Wb,hWb⟩ : ∃ W_,W_ = w.alloc (.cells #[.pointer (some ⟨p,0,none⟩)] 87):=⟨_,rfl⟩
 rw [← hWb] at hbx
 obtain ⟨bo,g,r0,l,Lb,h⟩:=hS.below hbx
 have cp0:=bc_ h.hp 0
 have cb : Wb.cell? ⟨w.heap.size,0,none⟩ = some (.pointer (some ⟨p,0,none⟩)):=by rw [hWb]; exact (zAh (heap_alloc_new w _) 0).trans rfl
 obtain ⟨ad,A4,c4,eA,z0,z1,z2,z3,z4,l4,g4⟩:=at_T66 h.hC q h0 h1
 have e0:=eq_true h0
 have e1:=eq_true h1
 have hk0 : kdOf ns q = (rd_T66 ns q).f0:=rfl
 have ht0 : nmOf ns q = (rd_T66 ns q).f3.data.toList:=rfl
 obtain ⟨x,hx⟩ : ∃ x,x = rd_T66 ns q:=⟨_,rfl⟩
 rw [← hx] at z0 z1 z2 z3 z4 l4 g4 hkq hsz hk0 ht0 ⊢
 obtain ⟨k,n,at_,tx,kl⟩:=x
 dsimp only at z0 z1 z2 z3 z4 l4 g4 hkq hsz hk0 ht0 ⊢
 rw [hk] at hk0
 subst hk0
 have x3:=heap_alloc_new w (.cells #[.pointer (some ⟨p,0,none⟩)] 87)
 rw [← hWb] at x3
 have hb0 : Below w.heap.size w (Wb.alloc (.cells #[.int .i64 17,.int .i64 n,.int .i64 at_,.string tx,.slice A4 kl.length c4] 66)):=zAa hbx _
 have hbC : Below Wb.heap.size Wb (Wb.alloc (.cells #[.int .i64 17,.int .i64 n,.int .i64 at_,.string tx,.slice A4 kl.length c4] 66)):=zAa (Below.refl _ _) _
 replace x3:=zAj x3 (.cells #[.int .i64 17,.int .i64 n,.int .i64 at_,.string tx,.slice A4 kl.length c4] 66)
 have x5:=heap_alloc_new Wb (.cells #[.int .i64 17,.int .i64 n,.int .i64 at_,.string tx,.slice A4 kl.length c4] 66)
 rw [show Wb.heap.size = w.heap.size + 1 from by rw [hWb]; simp] at x5
 have HCW:=Lib.hid (fun (w' : World) (hb : Below (Wb.alloc (.cells #[.int .i64 17,.int .i64 n,.int .i64 at_,.string tx,.slice A4 kl.length c4] 66)).heap.size (Wb.alloc (.cells #[.int .i64 17,.int .i64 n,.int .i64 at_,.string tx,.slice A4 kl.length c4] 66)) w') => Kd.C_below (Kd.C_below g4 hbC) hb)
 obtain ⟨W0,hW0⟩ : ∃ W_,W_ = Wb.alloc (.cells #[.int .i64 17,.int .i64 n,.int .i64 at_,.string tx,.slice A4 kl.length c4] 66):=⟨_,rfl⟩
 rw [← hW0] at hb0 x3 x5 HCW
 have HB0:=Lib.hid hb0
 have X30:=Lib.hid x3
 have X50:=Lib.hid x5
 have HW0:=Lib.hid hW0
 have HS:=Lib.hid (fun (w' : World) (hb : Below w.heap.size w w') => hS.below hb)
 have HKQ:=Lib.hid hkq
 have hkl:=hkq.2
 have HSZ:=Lib.hid hsz
 have HT0:=Lib.hid ht0
 have HKI:=Lib.hid hKI
 cases eA
 clear h hb0 hbC x3 x5 hW0 hbx g4 hkq hsz hx hKI hk hS
 obtain ⟨R,hR⟩ : ∃ R,R = namedF ns ol q (kindF ns ol q (nmOf ns q) == 3 && allF ns ol 1 kl):=⟨_,rfl⟩
 rw [← hR]
 have HN:=Lib.hid (zDe p (some ad) ct ns root ol q h0 h1 w.heap.size (w.heap.size + 1) (kindF ns ol q (nmOf ns q) == 3 && allF ns ol 1 kl) W0 (HS.out W0 HB0.out) (fun w' hb => zCI w.heap.size (w.heap.size + 1) p (some ad) ct ns root ol _ A4 c4 kl HKQ.out.1 HKQ.out.2 w' (HS.out w' (zAd HB0.out hb)) (HCW.out w' hb) l4 ((zAh (zAe X30.out hb) 0).trans rfl) ((zAh (zAe X50.out hb) 4).trans rfl)))
 rw [← hR] at HN
 clear hR
 subst hWb
 go_enter Tryz.func34,Tryz.ntmps34
 go_wp2_with fail
 rw [← HW0.out]
 clear z0 z1 z2 z3 z4 cp0 cb e0 e1
 refine HN.out.mono ?_
 rintro e_ W1 ⟨rfl,hb_⟩
 have HB1:=Lib.hid (zAd (HB0.out) hb_)
 have X31:=Lib.hid (zAe (X30.out) hb_)
 have X51:=Lib.hid (zAe (X50.out) hb_)
 clear hb_
 go_wp2_with fail
 go_ret
 exact ⟨rfl,HB1.out⟩
theorem check_24 (p : Nat) (At : Option Addr) (ct : Nat) (ns : List S66) (root : Int) (ol : List Int) (q : Int) (h0 : 0 ≤ q) (h1 : q < ns.length) (hk : kdOf ns q = 24) (hKI : KidsIn ns) (w : World) (hS : Sc p At ct ns root ol w) :
  Calls Tryz.prog 34 #[.pointer (some ⟨p,0,none⟩),.int .i64 q] w fun e w' => e = .returned (.int .i64 (namedF ns ol q (kindF ns ol q (nmOf ns q) == 3))) ∧ Below w.heap.size w w':=by
 have hmf:=@hmf_ Tryz.prog
 have hkq:=hKI (rd_T66 ns q) (zAA ns q h0 h1)
 have hsz:=KidsIn.size hS h0 h1
 have hbx : Below w.heap.size w (w.alloc (.cells #[.pointer (some ⟨p,0,none⟩)] 87)):=zAa (Below.refl _ _) _
 obtain ⟨Wb,hWb⟩ : ∃ W_,W_ = w.alloc (.cells #[.pointer (some ⟨p,0,none⟩)] 87):=⟨_,rfl⟩
 rw [← hWb] at hbx
 obtain ⟨bo,g,r0,l,Lb,h⟩:=hS.below hbx
 have cp0:=bc_ h.hp 0
 have cb : Wb.cell? ⟨w.heap.size,0,none⟩ = some (.pointer (some ⟨p,0,none⟩)):=by rw [hWb]; exact (zAh (heap_alloc_new w _) 0).trans rfl
 obtain ⟨ad,A4,c4,eA,z0,z1,z2,z3,z4,l4,g4⟩:=at_T66 h.hC q h0 h1
 have e0:=eq_true h0
 have e1:=eq_true h1
 have hk0 : kdOf ns q = (rd_T66 ns q).f0:=rfl
 have ht0 : nmOf ns q = (rd_T66 ns q).f3.data.toList:=rfl
 obtain ⟨x,hx⟩ : ∃ x,x = rd_T66 ns q:=⟨_,rfl⟩
 rw [← hx] at z0 z1 z2 z3 z4 l4 g4 hkq hsz hk0 ht0
 obtain ⟨k,n,at_,tx,kl⟩:=x
 dsimp only at z0 z1 z2 z3 z4 l4 g4 hkq hsz hk0 ht0
 rw [hk] at hk0
 subst hk0
 have x3:=heap_alloc_new w (.cells #[.pointer (some ⟨p,0,none⟩)] 87)
 rw [← hWb] at x3
 have hb0 : Below w.heap.size w (Wb.alloc (.cells #[.int .i64 24,.int .i64 n,.int .i64 at_,.string tx,.slice A4 kl.length c4] 66)):=zAa hbx _
 have hbC : Below Wb.heap.size Wb (Wb.alloc (.cells #[.int .i64 24,.int .i64 n,.int .i64 at_,.string tx,.slice A4 kl.length c4] 66)):=zAa (Below.refl _ _) _
 replace x3:=zAj x3 (.cells #[.int .i64 24,.int .i64 n,.int .i64 at_,.string tx,.slice A4 kl.length c4] 66)
 have x5:=heap_alloc_new Wb (.cells #[.int .i64 24,.int .i64 n,.int .i64 at_,.string tx,.slice A4 kl.length c4] 66)
 rw [show Wb.heap.size = w.heap.size + 1 from by rw [hWb]; simp] at x5
 have HCW:=Lib.hid (fun (w' : World) (hb : Below (Wb.alloc (.cells #[.int .i64 24,.int .i64 n,.int .i64 at_,.string tx,.slice A4 kl.length c4] 66)).heap.size (Wb.alloc (.cells #[.int .i64 24,.int .i64 n,.int .i64 at_,.string tx,.slice A4 kl.length c4] 66)) w') => Kd.C_below (Kd.C_below g4 hbC) hb)
 obtain ⟨W0,hW0⟩ : ∃ W_,W_ = Wb.alloc (.cells #[.int .i64 24,.int .i64 n,.int .i64 at_,.string tx,.slice A4 kl.length c4] 66):=⟨_,rfl⟩
 rw [← hW0] at hb0 x3 x5 HCW
 have HB0:=Lib.hid hb0
 have X30:=Lib.hid x3
 have X50:=Lib.hid x5
 have HW0:=Lib.hid hW0
 have HS:=Lib.hid (fun (w' : World) (hb : Below w.heap.size w w') => hS.below hb)
 have HKQ:=Lib.hid hkq
 have hkl:=hkq.2
 have HSZ:=Lib.hid hsz
 have HT0:=Lib.hid ht0
 have HKI:=Lib.hid hKI
 cases eA
 clear h hb0 hbC x3 x5 hW0 hbx g4 hkq hsz hx hKI hk hS
 obtain ⟨R,hR⟩ : ∃ R,R = namedF ns ol q (kindF ns ol q (nmOf ns q) == 3):=⟨_,rfl⟩
 rw [← hR]
 have HN:=Lib.hid (fun (b : Nat) (w' : World) (hb : Below w.heap.size w w') (hc : w'.heap[b]? = some (.cells #[.int .i64 3] 3 (0,0))) => zCQ p (some ad) ct ns root ol q h0 h1 b (kindF ns ol q (nmOf ns q) == 3) w' (HS.out w' hb) (fun w2 hb2 => zCr 3 _ b w2 ((zAh (zAe hc hb2) 0).trans rfl)))
 rw [← hR] at HN
 clear hR
 subst hWb
 go_enter Tryz.func34,Tryz.ntmps34
 go_wp2_with fail
 rw [← HW0.out]
 clear z0 z1 z2 z3 z4 cp0 cb e0 e1
 have c30:=bc_ X30.out 0
 refine start_ (n:=6) (S:=fun w' => w'.cell? ⟨w.heap.size,0,none⟩ = some (.pointer (some ⟨p,0,none⟩))) (ds:=[]) #[false,false,false,false,false,false] (by kernel_rfl) rfl rfl (zAg c30) (fun hHeld => ?_)
 refine pu_ 1 44 ?_
 refine pu_ 2 45 ?_
 refine ta_ 0 43 hHeld ?_
 refine on_ 3 (some 46) (fun K hK => ?_)
 refine goesV_ Tryz.func64 (by kernel_rfl) rfl #[.int .i64 3] (by rfl) rfl rfl (by rfl) (by simp only [List.map_toArray,List.map_cons,List.map_nil]; rfl) ?_
 with_reducible refine (tis_new 3 _).mono ?_
 rintro e_ w_ ⟨rfl,rfl⟩
 refine ⟨_,rfl,?_⟩
 have hb_ : Below W0.drew.heap.size W0.drew (W0.drew.alloc (.cells #[.int .i64 3] 3)):=zAa (Below.refl _ _) _
 have xc_:=blk_new W0.drew (.cells #[.int .i64 3] 3)
 obtain ⟨bc,hbc⟩ : ∃ bc,bc = W0.drew.heap.size:=⟨_,rfl⟩
 rw [← hbc] at xc_ ⊢
 obtain ⟨W1,hW1⟩ : ∃ W_,W_ = W0.drew.alloc (.cells #[.int .i64 3] 3):=⟨_,rfl⟩
 rw [← hW1] at hb_ xc_ ⊢
 have XC:=Lib.hid xc_
 clear xc_ hW1
 have HB1:=Lib.hid (zAd (zAk (HB0.out)) hb_)
 have X31:=Lib.hid (zAe (zAl (X30.out)) hb_)
 have X51:=Lib.hid (zAe (zAl (X50.out)) hb_)
 clear hb_
 have c31:=bc_ X31.out 0
 refine hK.out _ _ (c31) (fun hHeld => ?_)
 clear hK K
 refine no_ ?_
 refine on_ 4 (some 47) (fun K hK => ?_)
 refine gs_ Tryz.func67 #[.pointer (some ⟨p,0,none⟩),.int .i64 q,.func (.func 65) #[] #[.pointer (some ⟨bc,0,none⟩)]] ?_
 with_reducible refine (HN.out bc _ HB1.out XC.out).mono ?_
 rintro e_ W2 ⟨rfl,hb_⟩
 refine ⟨_,rfl,?_⟩
 have HB2:=Lib.hid (zAd (HB1.out) hb_)
 have X32:=Lib.hid (zAe (X31.out) hb_)
 have X52:=Lib.hid (zAe (X51.out) hb_)
 clear hb_
 have c32:=bc_ X32.out 0
 refine hK.out _ _ (c32) (fun hHeld => ?_)
 clear hK K
 refine no_ ?_
 refine pu_ 5 4 ?_
 refine done_ (by kernel_rfl) ?_
 go_wp2_with fail
 go_ret
 exact ⟨rfl,HB2.out⟩
theorem check_9 (p : Nat) (At : Option Addr) (ct : Nat) (ns : List S66) (root : Int) (ol : List Int) (q : Int) (h0 : 0 ≤ q) (h1 : q < ns.length) (hk : kdOf ns q = 9) (hKI : KidsIn ns) (w : World) (hS : Sc p At ct ns root ol w) :
  Calls Tryz.prog 34 #[.pointer (some ⟨p,0,none⟩),.int .i64 q] w fun e w' => e = .returned (.int .i64 (namedF ns ol q (kindF ns ol q (nmOf ns q) == 1))) ∧ Below w.heap.size w w':=by
 have hmf:=@hmf_ Tryz.prog
 have hkq:=hKI (rd_T66 ns q) (zAA ns q h0 h1)
 have hsz:=KidsIn.size hS h0 h1
 have hbx : Below w.heap.size w (w.alloc (.cells #[.pointer (some ⟨p,0,none⟩)] 87)):=zAa (Below.refl _ _) _
 obtain ⟨Wb,hWb⟩ : ∃ W_,W_ = w.alloc (.cells #[.pointer (some ⟨p,0,none⟩)] 87):=⟨_,rfl⟩
 rw [← hWb] at hbx
 obtain ⟨bo,g,r0,l,Lb,h⟩:=hS.below hbx
 have cp0:=bc_ h.hp 0
 have cb : Wb.cell? ⟨w.heap.size,0,none⟩ = some (.pointer (some ⟨p,0,none⟩)):=by rw [hWb]; exact (zAh (heap_alloc_new w _) 0).trans rfl
 obtain ⟨ad,A4,c4,eA,z0,z1,z2,z3,z4,l4,g4⟩:=at_T66 h.hC q h0 h1
 have e0:=eq_true h0
 have e1:=eq_true h1
 have hk0 : kdOf ns q = (rd_T66 ns q).f0:=rfl
 have ht0 : nmOf ns q = (rd_T66 ns q).f3.data.toList:=rfl
 obtain ⟨x,hx⟩ : ∃ x,x = rd_T66 ns q:=⟨_,rfl⟩
 rw [← hx] at z0 z1 z2 z3 z4 l4 g4 hkq hsz hk0 ht0
 obtain ⟨k,n,at_,tx,kl⟩:=x
 dsimp only at z0 z1 z2 z3 z4 l4 g4 hkq hsz hk0 ht0
 rw [hk] at hk0
 subst hk0
 have x3:=heap_alloc_new w (.cells #[.pointer (some ⟨p,0,none⟩)] 87)
 rw [← hWb] at x3
 have hb0 : Below w.heap.size w (Wb.alloc (.cells #[.int .i64 9,.int .i64 n,.int .i64 at_,.string tx,.slice A4 kl.length c4] 66)):=zAa hbx _
 have hbC : Below Wb.heap.size Wb (Wb.alloc (.cells #[.int .i64 9,.int .i64 n,.int .i64 at_,.string tx,.slice A4 kl.length c4] 66)):=zAa (Below.refl _ _) _
 replace x3:=zAj x3 (.cells #[.int .i64 9,.int .i64 n,.int .i64 at_,.string tx,.slice A4 kl.length c4] 66)
 have x5:=heap_alloc_new Wb (.cells #[.int .i64 9,.int .i64 n,.int .i64 at_,.string tx,.slice A4 kl.length c4] 66)
 rw [show Wb.heap.size = w.heap.size + 1 from by rw [hWb]; simp] at x5
 have HCW:=Lib.hid (fun (w' : World) (hb : Below (Wb.alloc (.cells #[.int .i64 9,.int .i64 n,.int .i64 at_,.string tx,.slice A4 kl.length c4] 66)).heap.size (Wb.alloc (.cells #[.int .i64 9,.int .i64 n,.int .i64 at_,.string tx,.slice A4 kl.length c4] 66)) w') => Kd.C_below (Kd.C_below g4 hbC) hb)
 obtain ⟨W0,hW0⟩ : ∃ W_,W_ = Wb.alloc (.cells #[.int .i64 9,.int .i64 n,.int .i64 at_,.string tx,.slice A4 kl.length c4] 66):=⟨_,rfl⟩
 rw [← hW0] at hb0 x3 x5 HCW
 have HB0:=Lib.hid hb0
 have X30:=Lib.hid x3
 have X50:=Lib.hid x5
 have HW0:=Lib.hid hW0
 have HS:=Lib.hid (fun (w' : World) (hb : Below w.heap.size w w') => hS.below hb)
 have HKQ:=Lib.hid hkq
 have hkl:=hkq.2
 have HSZ:=Lib.hid hsz
 have HT0:=Lib.hid ht0
 have HKI:=Lib.hid hKI
 cases eA
 clear h hb0 hbC x3 x5 hW0 hbx g4 hkq hsz hx hKI hk hS
 obtain ⟨R,hR⟩ : ∃ R,R = namedF ns ol q (kindF ns ol q (nmOf ns q) == 1):=⟨_,rfl⟩
 rw [← hR]
 have HN:=Lib.hid (fun (b : Nat) (w' : World) (hb : Below w.heap.size w w') (hc : w'.heap[b]? = some (.cells #[.int .i64 1] 3 (0,0))) => zCQ p (some ad) ct ns root ol q h0 h1 b (kindF ns ol q (nmOf ns q) == 1) w' (HS.out w' hb) (fun w2 hb2 => zCr 1 _ b w2 ((zAh (zAe hc hb2) 0).trans rfl)))
 rw [← hR] at HN
 clear hR
 subst hWb
 go_enter Tryz.func34,Tryz.ntmps34
 go_wp2_with fail
 rw [← HW0.out]
 clear z0 z1 z2 z3 z4 cp0 cb e0 e1
 have c30:=bc_ X30.out 0
 refine start_ (n:=6) (S:=fun w' => w'.cell? ⟨w.heap.size,0,none⟩ = some (.pointer (some ⟨p,0,none⟩))) (ds:=[]) #[false,false,false,false,false,false] (by kernel_rfl) rfl rfl (zAg c30) (fun hHeld => ?_)
 refine pu_ 1 52 ?_
 refine pu_ 2 53 ?_
 refine ta_ 0 51 hHeld ?_
 refine on_ 3 (some 54) (fun K hK => ?_)
 refine goesV_ Tryz.func64 (by kernel_rfl) rfl #[.int .i64 1] (by rfl) rfl rfl (by rfl) (by simp only [List.map_toArray,List.map_cons,List.map_nil]; rfl) ?_
 with_reducible refine (tis_new 1 _).mono ?_
 rintro e_ w_ ⟨rfl,rfl⟩
 refine ⟨_,rfl,?_⟩
 have hb_ : Below W0.drew.heap.size W0.drew (W0.drew.alloc (.cells #[.int .i64 1] 3)):=zAa (Below.refl _ _) _
 have xc_:=blk_new W0.drew (.cells #[.int .i64 1] 3)
 obtain ⟨bc,hbc⟩ : ∃ bc,bc = W0.drew.heap.size:=⟨_,rfl⟩
 rw [← hbc] at xc_ ⊢
 obtain ⟨W1,hW1⟩ : ∃ W_,W_ = W0.drew.alloc (.cells #[.int .i64 1] 3):=⟨_,rfl⟩
 rw [← hW1] at hb_ xc_ ⊢
 have XC:=Lib.hid xc_
 clear xc_ hW1
 have HB1:=Lib.hid (zAd (zAk (HB0.out)) hb_)
 have X31:=Lib.hid (zAe (zAl (X30.out)) hb_)
 have X51:=Lib.hid (zAe (zAl (X50.out)) hb_)
 clear hb_
 have c31:=bc_ X31.out 0
 refine hK.out _ _ (c31) (fun hHeld => ?_)
 clear hK K
 refine no_ ?_
 refine on_ 4 (some 55) (fun K hK => ?_)
 refine gs_ Tryz.func67 #[.pointer (some ⟨p,0,none⟩),.int .i64 q,.func (.func 65) #[] #[.pointer (some ⟨bc,0,none⟩)]] ?_
 with_reducible refine (HN.out bc _ HB1.out XC.out).mono ?_
 rintro e_ W2 ⟨rfl,hb_⟩
 refine ⟨_,rfl,?_⟩
 have HB2:=Lib.hid (zAd (HB1.out) hb_)
 have X32:=Lib.hid (zAe (X31.out) hb_)
 have X52:=Lib.hid (zAe (X51.out) hb_)
 clear hb_
 have c32:=bc_ X32.out 0
 refine hK.out _ _ (c32) (fun hHeld => ?_)
 clear hK K
 refine no_ ?_
 refine pu_ 5 4 ?_
 refine done_ (by kernel_rfl) ?_
 go_wp2_with fail
 go_ret
 exact ⟨rfl,HB2.out⟩
theorem check_16 (p : Nat) (At : Option Addr) (ct : Nat) (ns : List S66) (root : Int) (ol : List Int) (q : Int) (h0 : 0 ≤ q) (h1 : q < ns.length) (hk : kdOf ns q = 16) (hKI : KidsIn ns) (w : World) (hS : Sc p At ct ns root ol w) :
  Calls Tryz.prog 34 #[.pointer (some ⟨p,0,none⟩),.int .i64 q] w fun e w' => e = .returned (.int .i64 (namedF ns ol q (kindF ns ol q (nmOf ns q) == 1))) ∧ Below w.heap.size w w':=by
 have hmf:=@hmf_ Tryz.prog
 have hkq:=hKI (rd_T66 ns q) (zAA ns q h0 h1)
 have hsz:=KidsIn.size hS h0 h1
 have hbx : Below w.heap.size w (w.alloc (.cells #[.pointer (some ⟨p,0,none⟩)] 87)):=zAa (Below.refl _ _) _
 obtain ⟨Wb,hWb⟩ : ∃ W_,W_ = w.alloc (.cells #[.pointer (some ⟨p,0,none⟩)] 87):=⟨_,rfl⟩
 rw [← hWb] at hbx
 obtain ⟨bo,g,r0,l,Lb,h⟩:=hS.below hbx
 have cp0:=bc_ h.hp 0
 have cb : Wb.cell? ⟨w.heap.size,0,none⟩ = some (.pointer (some ⟨p,0,none⟩)):=by rw [hWb]; exact (zAh (heap_alloc_new w _) 0).trans rfl
 obtain ⟨ad,A4,c4,eA,z0,z1,z2,z3,z4,l4,g4⟩:=at_T66 h.hC q h0 h1
 have e0:=eq_true h0
 have e1:=eq_true h1
 have hk0 : kdOf ns q = (rd_T66 ns q).f0:=rfl
 have ht0 : nmOf ns q = (rd_T66 ns q).f3.data.toList:=rfl
 obtain ⟨x,hx⟩ : ∃ x,x = rd_T66 ns q:=⟨_,rfl⟩
 rw [← hx] at z0 z1 z2 z3 z4 l4 g4 hkq hsz hk0 ht0
 obtain ⟨k,n,at_,tx,kl⟩:=x
 dsimp only at z0 z1 z2 z3 z4 l4 g4 hkq hsz hk0 ht0
 rw [hk] at hk0
 subst hk0
 have x3:=heap_alloc_new w (.cells #[.pointer (some ⟨p,0,none⟩)] 87)
 rw [← hWb] at x3
 have hb0 : Below w.heap.size w (Wb.alloc (.cells #[.int .i64 16,.int .i64 n,.int .i64 at_,.string tx,.slice A4 kl.length c4] 66)):=zAa hbx _
 have hbC : Below Wb.heap.size Wb (Wb.alloc (.cells #[.int .i64 16,.int .i64 n,.int .i64 at_,.string tx,.slice A4 kl.length c4] 66)):=zAa (Below.refl _ _) _
 replace x3:=zAj x3 (.cells #[.int .i64 16,.int .i64 n,.int .i64 at_,.string tx,.slice A4 kl.length c4] 66)
 have x5:=heap_alloc_new Wb (.cells #[.int .i64 16,.int .i64 n,.int .i64 at_,.string tx,.slice A4 kl.length c4] 66)
 rw [show Wb.heap.size = w.heap.size + 1 from by rw [hWb]; simp] at x5
 have HCW:=Lib.hid (fun (w' : World) (hb : Below (Wb.alloc (.cells #[.int .i64 16,.int .i64 n,.int .i64 at_,.string tx,.slice A4 kl.length c4] 66)).heap.size (Wb.alloc (.cells #[.int .i64 16,.int .i64 n,.int .i64 at_,.string tx,.slice A4 kl.length c4] 66)) w') => Kd.C_below (Kd.C_below g4 hbC) hb)
 obtain ⟨W0,hW0⟩ : ∃ W_,W_ = Wb.alloc (.cells #[.int .i64 16,.int .i64 n,.int .i64 at_,.string tx,.slice A4 kl.length c4] 66):=⟨_,rfl⟩
 rw [← hW0] at hb0 x3 x5 HCW
 have HB0:=Lib.hid hb0
 have X30:=Lib.hid x3
 have X50:=Lib.hid x5
 have HW0:=Lib.hid hW0
 have HS:=Lib.hid (fun (w' : World) (hb : Below w.heap.size w w') => hS.below hb)
 have HKQ:=Lib.hid hkq
 have hkl:=hkq.2
 have HSZ:=Lib.hid hsz
 have HT0:=Lib.hid ht0
 have HKI:=Lib.hid hKI
 cases eA
 clear h hb0 hbC x3 x5 hW0 hbx g4 hkq hsz hx hKI hk hS
 obtain ⟨R,hR⟩ : ∃ R,R = namedF ns ol q (kindF ns ol q (nmOf ns q) == 1):=⟨_,rfl⟩
 rw [← hR]
 have HN:=Lib.hid (fun (b : Nat) (w' : World) (hb : Below w.heap.size w w') (hc : w'.heap[b]? = some (.cells #[.int .i64 1] 3 (0,0))) => zCQ p (some ad) ct ns root ol q h0 h1 b (kindF ns ol q (nmOf ns q) == 1) w' (HS.out w' hb) (fun w2 hb2 => zCr 1 _ b w2 ((zAh (zAe hc hb2) 0).trans rfl)))
 rw [← hR] at HN
 clear hR
 subst hWb
 go_enter Tryz.func34,Tryz.ntmps34
 go_wp2_with fail
 rw [← HW0.out]
 clear z0 z1 z2 z3 z4 cp0 cb e0 e1
 have c30:=bc_ X30.out 0
 refine start_ (n:=6) (S:=fun w' => w'.cell? ⟨w.heap.size,0,none⟩ = some (.pointer (some ⟨p,0,none⟩))) (ds:=[]) #[false,false,false,false,false,false] (by kernel_rfl) rfl rfl (zAg c30) (fun hHeld => ?_)
 refine pu_ 1 52 ?_
 refine pu_ 2 53 ?_
 refine ta_ 0 51 hHeld ?_
 refine on_ 3 (some 54) (fun K hK => ?_)
 refine goesV_ Tryz.func64 (by kernel_rfl) rfl #[.int .i64 1] (by rfl) rfl rfl (by rfl) (by simp only [List.map_toArray,List.map_cons,List.map_nil]; rfl) ?_
 with_reducible refine (tis_new 1 _).mono ?_
 rintro e_ w_ ⟨rfl,rfl⟩
 refine ⟨_,rfl,?_⟩
 have hb_ : Below W0.drew.heap.size W0.drew (W0.drew.alloc (.cells #[.int .i64 1] 3)):=zAa (Below.refl _ _) _
 have xc_:=blk_new W0.drew (.cells #[.int .i64 1] 3)
 obtain ⟨bc,hbc⟩ : ∃ bc,bc = W0.drew.heap.size:=⟨_,rfl⟩
 rw [← hbc] at xc_ ⊢
 obtain ⟨W1,hW1⟩ : ∃ W_,W_ = W0.drew.alloc (.cells #[.int .i64 1] 3):=⟨_,rfl⟩
 rw [← hW1] at hb_ xc_ ⊢
 have XC:=Lib.hid xc_
 clear xc_ hW1
 have HB1:=Lib.hid (zAd (zAk (HB0.out)) hb_)
 have X31:=Lib.hid (zAe (zAl (X30.out)) hb_)
 have X51:=Lib.hid (zAe (zAl (X50.out)) hb_)
 clear hb_
 have c31:=bc_ X31.out 0
 refine hK.out _ _ (c31) (fun hHeld => ?_)
 clear hK K
 refine no_ ?_
 refine on_ 4 (some 55) (fun K hK => ?_)
 refine gs_ Tryz.func67 #[.pointer (some ⟨p,0,none⟩),.int .i64 q,.func (.func 65) #[] #[.pointer (some ⟨bc,0,none⟩)]] ?_
 with_reducible refine (HN.out bc _ HB1.out XC.out).mono ?_
 rintro e_ W2 ⟨rfl,hb_⟩
 refine ⟨_,rfl,?_⟩
 have HB2:=Lib.hid (zAd (HB1.out) hb_)
 have X32:=Lib.hid (zAe (X31.out) hb_)
 have X52:=Lib.hid (zAe (X51.out) hb_)
 clear hb_
 have c32:=bc_ X32.out 0
 refine hK.out _ _ (c32) (fun hHeld => ?_)
 clear hK K
 refine no_ ?_
 refine pu_ 5 4 ?_
 refine done_ (by kernel_rfl) ?_
 go_wp2_with fail
 go_ret
 exact ⟨rfl,HB2.out⟩
theorem check_7 (p : Nat) (At : Option Addr) (ct : Nat) (ns : List S66) (root : Int) (ol : List Int) (q : Int) (h0 : 0 ≤ q) (h1 : q < ns.length) (hk : kdOf ns q = 7) (hKI : KidsIn ns) (hp : 0 < (rd_T66 ns q).f4.length) (w : World) (hS : Sc p At ct ns root ol w) :
  Calls Tryz.prog 34 #[.pointer (some ⟨p,0,none⟩),.int .i64 q] w fun e w' => e = .returned (.int .i64 (namedF ns ol q (kindF ns ol q (nmOf ns q) == exprF ns ol (rd (rd_T66 ns q).f4 0)))) ∧ Below w.heap.size w w':=by
 have hmf:=@hmf_ Tryz.prog
 have hkq:=hKI (rd_T66 ns q) (zAA ns q h0 h1)
 have hsz:=KidsIn.size hS h0 h1
 have hbx : Below w.heap.size w (w.alloc (.cells #[.pointer (some ⟨p,0,none⟩)] 87)):=zAa (Below.refl _ _) _
 obtain ⟨Wb,hWb⟩ : ∃ W_,W_ = w.alloc (.cells #[.pointer (some ⟨p,0,none⟩)] 87):=⟨_,rfl⟩
 rw [← hWb] at hbx
 obtain ⟨bo,g,r0,l,Lb,h⟩:=hS.below hbx
 have cp0:=bc_ h.hp 0
 have cb : Wb.cell? ⟨w.heap.size,0,none⟩ = some (.pointer (some ⟨p,0,none⟩)):=by rw [hWb]; exact (zAh (heap_alloc_new w _) 0).trans rfl
 obtain ⟨ad,A4,c4,eA,z0,z1,z2,z3,z4,l4,g4⟩:=at_T66 h.hC q h0 h1
 have e0:=eq_true h0
 have e1:=eq_true h1
 have hk0 : kdOf ns q = (rd_T66 ns q).f0:=rfl
 have ht0 : nmOf ns q = (rd_T66 ns q).f3.data.toList:=rfl
 obtain ⟨x,hx⟩ : ∃ x,x = rd_T66 ns q:=⟨_,rfl⟩
 rw [← hx] at z0 z1 z2 z3 z4 l4 g4 hkq hsz hk0 ht0 hp ⊢
 obtain ⟨k,n,at_,tx,kl⟩:=x
 dsimp only at z0 z1 z2 z3 z4 l4 g4 hkq hsz hk0 ht0 hp ⊢
 rw [hk] at hk0
 subst hk0
 have x3:=heap_alloc_new w (.cells #[.pointer (some ⟨p,0,none⟩)] 87)
 rw [← hWb] at x3
 have hb0 : Below w.heap.size w (Wb.alloc (.cells #[.int .i64 7,.int .i64 n,.int .i64 at_,.string tx,.slice A4 kl.length c4] 66)):=zAa hbx _
 have hbC : Below Wb.heap.size Wb (Wb.alloc (.cells #[.int .i64 7,.int .i64 n,.int .i64 at_,.string tx,.slice A4 kl.length c4] 66)):=zAa (Below.refl _ _) _
 replace x3:=zAj x3 (.cells #[.int .i64 7,.int .i64 n,.int .i64 at_,.string tx,.slice A4 kl.length c4] 66)
 have x5:=heap_alloc_new Wb (.cells #[.int .i64 7,.int .i64 n,.int .i64 at_,.string tx,.slice A4 kl.length c4] 66)
 rw [show Wb.heap.size = w.heap.size + 1 from by rw [hWb]; simp] at x5
 have HCW:=Lib.hid (fun (w' : World) (hb : Below (Wb.alloc (.cells #[.int .i64 7,.int .i64 n,.int .i64 at_,.string tx,.slice A4 kl.length c4] 66)).heap.size (Wb.alloc (.cells #[.int .i64 7,.int .i64 n,.int .i64 at_,.string tx,.slice A4 kl.length c4] 66)) w') => Kd.C_below (Kd.C_below g4 hbC) hb)
 obtain ⟨W0,hW0⟩ : ∃ W_,W_ = Wb.alloc (.cells #[.int .i64 7,.int .i64 n,.int .i64 at_,.string tx,.slice A4 kl.length c4] 66):=⟨_,rfl⟩
 rw [← hW0] at hb0 x3 x5 HCW
 have HB0:=Lib.hid hb0
 have X30:=Lib.hid x3
 have X50:=Lib.hid x5
 have HW0:=Lib.hid hW0
 have HS:=Lib.hid (fun (w' : World) (hb : Below w.heap.size w w') => hS.below hb)
 have HKQ:=Lib.hid hkq
 have hkl:=hkq.2
 have HSZ:=Lib.hid hsz
 have HT0:=Lib.hid ht0
 have HKI:=Lib.hid hKI
 cases eA
 clear h hb0 hbC x3 x5 hW0 hbx g4 hkq hsz hx hKI hk hS
 obtain ⟨k0,hk0⟩ : ∃ k0,k0 = rd kl 0:=⟨_,rfl⟩
 have hin : 0 ≤ k0 ∧ k0 < ns.length:=by
  rw [hk0,show rd kl 0 = kl[0] from by simp [rd,hp]]
  exact HKQ.out.1 _ (List.getElem_mem hp)
 rw [← hk0]
 obtain ⟨adK,eK,y0⟩:=Kd.at_int (HCW.out W0 (Below.refl _ _)) 0 (Int.le_refl _) (by omega)
 rw [← hk0] at y0
 replace y0 : W0.cell? adK = some (.int .i64 k0):=y0
 cases eK
 have HE:=Lib.hid (fun (w' : World) (hb : Below w.heap.size w w') => expr_is p (some ad) ct ns root ol k0 hin.1 hin.2 w' (HS.out w' hb))
 obtain ⟨te,hte⟩ : ∃ te,te = exprF ns ol k0:=⟨_,rfl⟩
 rw [← hte] at HE ⊢
 obtain ⟨R,hR⟩ : ∃ R,R = namedF ns ol q (kindF ns ol q (nmOf ns q) == te):=⟨_,rfl⟩
 rw [← hR]
 have HN:=Lib.hid (fun (b : Nat) (w' : World) (hb : Below w.heap.size w w') (hc : w'.heap[b]? = some (.cells #[.int .i64 te] 3 (0,0))) => zCQ p (some ad) ct ns root ol q h0 h1 b (kindF ns ol q (nmOf ns q) == te) w' (HS.out w' hb) (fun w2 hb2 => zCr te _ b w2 ((zAh (zAe hc hb2) 0).trans rfl)))
 rw [← hR] at HN
 have e3 : (0 : Int) < (kl.length : Int):=by omega
 clear hR hte hin hk0
 subst hWb
 go_enter Tryz.func34,Tryz.ntmps34
 go_wp2_with fail
 rw [← HW0.out]
 clear z0 z1 z2 z3 z4 cp0 cb e0 e1
 have c30:=bc_ X30.out 0
 have c540:=bc_ X50.out 4
 refine start_ (n:=12) (S:=fun w' => w'.cell? ⟨w.heap.size,0,none⟩ = some (.pointer (some ⟨p,0,none⟩)) ∧ w'.cell? ⟨w.heap.size + 1,4,none⟩ = some (.slice (some adK) kl.length c4) ∧ w'.cell? adK = some (.int .i64 k0)) (ds:=[]) #[false,false,false,false,false,false,false,false,false,false,false,false] (by kernel_rfl) rfl rfl ⟨zAg c30,zAg c540,zAg y0⟩ (fun hHeld => ?_)
 refine pu_ 1 59 ?_
 refine pu_ 2 60 ?_
 refine pu_ 4 62 ?_
 refine ta_ 0 58 hHeld ?_
 refine ta_ 3 61 hHeld ?_
 refine ta_ 5 63 hHeld ?_
 refine pu_ 6 64 ?_
 refine ta_ 7 65 hHeld ?_
 refine on_ 8 (some 66) (fun K hK => ?_)
 refine gs_ Tryz.func71 #[.pointer (some ⟨p,0,none⟩),.int .i64 k0] ?_
 with_reducible refine (HE.out _ (zAk HB0.out)).mono ?_
 rintro e_ W1 ⟨rfl,hb_⟩
 refine ⟨_,rfl,?_⟩
 have y1:=zAb hb_ (zAg y0)
 have HB1:=Lib.hid (zAd (zAk (HB0.out)) hb_)
 have X31:=Lib.hid (zAe (zAl (X30.out)) hb_)
 have X51:=Lib.hid (zAe (zAl (X50.out)) hb_)
 clear hb_
 have c31:=bc_ X31.out 0
 have c541:=bc_ X51.out 4
 refine hK.out _ _ ⟨c31,c541,y1⟩ (fun hHeld => ?_)
 clear hK K
 refine no_ ?_
 refine on_ 9 (some 67) (fun K hK => ?_)
 refine goesV_ Tryz.func64 (by kernel_rfl) rfl #[.int .i64 te] (by rfl) rfl rfl (by rfl) (by simp only [List.map_toArray,List.map_cons,List.map_nil]; rfl) ?_
 with_reducible refine (tis_new te _).mono ?_
 rintro e_ w_ ⟨rfl,rfl⟩
 refine ⟨_,rfl,?_⟩
 have hb_ : Below W1.heap.size W1 (W1.alloc (.cells #[.int .i64 te] 3)):=zAa (Below.refl _ _) _
 have xc_:=blk_new W1 (.cells #[.int .i64 te] 3)
 obtain ⟨bc,hbc⟩ : ∃ bc,bc = W1.heap.size:=⟨_,rfl⟩
 rw [← hbc] at xc_ ⊢
 obtain ⟨W2,hW2⟩ : ∃ W_,W_ = W1.alloc (.cells #[.int .i64 te] 3):=⟨_,rfl⟩
 rw [← hW2] at hb_ xc_ ⊢
 have XC:=Lib.hid xc_
 have y2:=zAb hb_ y1
 clear xc_ hW2
 have HB2:=Lib.hid (zAd (HB1.out) hb_)
 have X32:=Lib.hid (zAe (X31.out) hb_)
 have X52:=Lib.hid (zAe (X51.out) hb_)
 clear hb_
 have c32:=bc_ X32.out 0
 have c542:=bc_ X52.out 4
 refine hK.out _ _ ⟨c32,c542,y2⟩ (fun hHeld => ?_)
 clear hK K
 refine no_ ?_
 refine on_ 10 (some 68) (fun K hK => ?_)
 refine gs_ Tryz.func67 #[.pointer (some ⟨p,0,none⟩),.int .i64 q,.func (.func 65) #[] #[.pointer (some ⟨bc,0,none⟩)]] ?_
 with_reducible refine (HN.out bc _ HB2.out XC.out).mono ?_
 rintro e_ W3 ⟨rfl,hb_⟩
 refine ⟨_,rfl,?_⟩
 have y3:=zAb hb_ y2
 have HB3:=Lib.hid (zAd (HB2.out) hb_)
 have X33:=Lib.hid (zAe (X32.out) hb_)
 have X53:=Lib.hid (zAe (X52.out) hb_)
 clear hb_
 have c33:=bc_ X33.out 0
 have c543:=bc_ X53.out 4
 refine hK.out _ _ ⟨c33,c543,y3⟩ (fun hHeld => ?_)
 clear hK K
 refine no_ ?_
 refine pu_ 11 4 ?_
 refine done_ (by kernel_rfl) ?_
 go_wp2_with fail
 go_ret
 exact ⟨rfl,HB3.out⟩
theorem check_25 (p : Nat) (At : Option Addr) (ct : Nat) (ns : List S66) (root : Int) (ol : List Int) (q : Int) (h0 : 0 ≤ q) (h1 : q < ns.length) (hk : kdOf ns q = 25) (hKI : KidsIn ns) (w : World) (hS : Sc p At ct ns root ol w) :
  Calls Tryz.prog 34 #[.pointer (some ⟨p,0,none⟩),.int .i64 q] w fun e w' => e = .returned (.int .i64 (if procF ns (nmOf ns q) = -1 then 3 else if plainF ns (procF ns (nmOf ns q)) = true then 0 else 5)) ∧ Below w.heap.size w w':=by
 have hmf:=@hmf_ Tryz.prog
 have hkq:=hKI (rd_T66 ns q) (zAA ns q h0 h1)
 have hsz:=KidsIn.size hS h0 h1
 have hbx : Below w.heap.size w (w.alloc (.cells #[.pointer (some ⟨p,0,none⟩)] 87)):=zAa (Below.refl _ _) _
 obtain ⟨Wb,hWb⟩ : ∃ W_,W_ = w.alloc (.cells #[.pointer (some ⟨p,0,none⟩)] 87):=⟨_,rfl⟩
 rw [← hWb] at hbx
 obtain ⟨bo,g,r0,l,Lb,h⟩:=hS.below hbx
 have cp0:=bc_ h.hp 0
 have cb : Wb.cell? ⟨w.heap.size,0,none⟩ = some (.pointer (some ⟨p,0,none⟩)):=by rw [hWb]; exact (zAh (heap_alloc_new w _) 0).trans rfl
 obtain ⟨ad,A4,c4,eA,z0,z1,z2,z3,z4,l4,g4⟩:=at_T66 h.hC q h0 h1
 have e0:=eq_true h0
 have e1:=eq_true h1
 have hk0 : kdOf ns q = (rd_T66 ns q).f0:=rfl
 have ht0 : nmOf ns q = (rd_T66 ns q).f3.data.toList:=rfl
 obtain ⟨x,hx⟩ : ∃ x,x = rd_T66 ns q:=⟨_,rfl⟩
 rw [← hx] at z0 z1 z2 z3 z4 l4 g4 hkq hsz hk0 ht0
 obtain ⟨k,n,at_,tx,kl⟩:=x
 dsimp only at z0 z1 z2 z3 z4 l4 g4 hkq hsz hk0 ht0
 rw [hk] at hk0
 subst hk0
 have x3:=heap_alloc_new w (.cells #[.pointer (some ⟨p,0,none⟩)] 87)
 rw [← hWb] at x3
 have hb0 : Below w.heap.size w (Wb.alloc (.cells #[.int .i64 25,.int .i64 n,.int .i64 at_,.string tx,.slice A4 kl.length c4] 66)):=zAa hbx _
 have hbC : Below Wb.heap.size Wb (Wb.alloc (.cells #[.int .i64 25,.int .i64 n,.int .i64 at_,.string tx,.slice A4 kl.length c4] 66)):=zAa (Below.refl _ _) _
 replace x3:=zAj x3 (.cells #[.int .i64 25,.int .i64 n,.int .i64 at_,.string tx,.slice A4 kl.length c4] 66)
 have x5:=heap_alloc_new Wb (.cells #[.int .i64 25,.int .i64 n,.int .i64 at_,.string tx,.slice A4 kl.length c4] 66)
 rw [show Wb.heap.size = w.heap.size + 1 from by rw [hWb]; simp] at x5
 have HCW:=Lib.hid (fun (w' : World) (hb : Below (Wb.alloc (.cells #[.int .i64 25,.int .i64 n,.int .i64 at_,.string tx,.slice A4 kl.length c4] 66)).heap.size (Wb.alloc (.cells #[.int .i64 25,.int .i64 n,.int .i64 at_,.string tx,.slice A4 kl.length c4] 66)) w') => Kd.C_below (Kd.C_below g4 hbC) hb)
 obtain ⟨W0,hW0⟩ : ∃ W_,W_ = Wb.alloc (.cells #[.int .i64 25,.int .i64 n,.int .i64 at_,.string tx,.slice A4 kl.length c4] 66):=⟨_,rfl⟩
 rw [← hW0] at hb0 x3 x5 HCW
 have HB0:=Lib.hid hb0
 have X30:=Lib.hid x3
 have X50:=Lib.hid x5
 have HW0:=Lib.hid hW0
 have HS:=Lib.hid (fun (w' : World) (hb : Below w.heap.size w w') => hS.below hb)
 have HKQ:=Lib.hid hkq
 have hkl:=hkq.2
 have HSZ:=Lib.hid hsz
 have HT0:=Lib.hid ht0
 have HKI:=Lib.hid hKI
 cases eA
 clear h hb0 hbC x3 x5 hW0 hbx g4 hkq hsz hx hKI hk hS
 have HPC:=Lib.hid (fun (w' : World) (hb : Below w.heap.size w w') => proc_is p (some ad) ct ns root ol tx HSZ.out w' (HS.out w' hb))
 have HPR:=Lib.hid (zBd ns tx.data.toList)
 have HPL:=Lib.hid (fun (pp : Int) (w' : World) (hb : Below w.heap.size w w') (h0 : 0 ≤ pp) (h1 : pp < ns.length) => plain_is p (some ad) ct ns root ol pp h0 h1 HKI.out w' (HS.out w' hb))
 rw [HT0.out]
 obtain ⟨pp,hpp⟩ : ∃ pp,pp = procF ns tx.data.toList:=⟨_,rfl⟩
 rw [← hpp] at HPC HPR ⊢
 clear hpp
 obtain ⟨pb,hpb⟩ : ∃ pb,pb = plainF ns pp:=⟨_,rfl⟩
 have HPL1:=Lib.hid (HPL.out pp)
 rw [← hpb] at HPL1 ⊢
 clear hpb HPL
 obtain ⟨R,hR⟩ : ∃ R : Int,R = if pp = -1 then 3 else if pb = true then 0 else 5:=⟨_,rfl⟩
 rw [← hR]
 have HR0:=Lib.hid hR
 clear hR
 subst hWb
 go_enter Tryz.func34,Tryz.ntmps34
 go_wp2_with fail
 rw [← HW0.out]
 clear z0 z1 z2 z3 z4 cp0 cb e0 e1
 refine (HPC.out W0 HB0.out).mono ?_
 rintro e_ W1 ⟨rfl,hb_⟩
 have HB1:=Lib.hid (zAd (HB0.out) hb_)
 have X31:=Lib.hid (zAe (X30.out) hb_)
 have X51:=Lib.hid (zAe (X50.out) hb_)
 clear hb_
 have c31:=bc_ X31.out 0
 by_cases hpp : pp = -1
 ·subst hpp
  have hR:=HR0.out
  rw [if_pos rfl] at hR
  subst hR
  clear HR0 HPR
  go_wp2_with fail
  go_ret
  exact ⟨rfl,HB1.out⟩
 ·have hR:=HR0.out
  rw [if_neg hpp] at hR
  have HR:=Lib.hid hR
  clear hR HR0
  have hpr:=HPR.out.resolve_left hpp
  have HPQ:=Lib.hid (HPL1.out W1 HB1.out hpr.1 hpr.2)
  clear hpr HPR HPL1
  go_wp2_with fail
  refine HPQ.out.mono ?_
  rintro e_ W2 ⟨rfl,hb_⟩
  have HB2:=Lib.hid (zAd (HB1.out) hb_)
  have X32:=Lib.hid (zAe (X31.out) hb_)
  have X52:=Lib.hid (zAe (X51.out) hb_)
  clear hb_
  go_wp2_with fail
  refine (told_is pb _).mono ?_
  rintro e_ w_ ⟨he_,rfl⟩
  rw [← HR.out] at he_
  subst he_
  go_wp2_with fail
  go_ret
  exact ⟨rfl,HB2.out⟩
theorem check_26 (p : Nat) (At : Option Addr) (ct : Nat) (ns : List S66) (root : Int) (ol : List Int) (q : Int) (h0 : 0 ≤ q) (h1 : q < ns.length) (hk : kdOf ns q = 26) (hKI : KidsIn ns) (w : World) (hS : Sc p At ct ns root ol w) :
  Calls Tryz.prog 34 #[.pointer (some ⟨p,0,none⟩),.int .i64 q] w fun e w' => e = .returned (.int .i64 (if operandsF ns ol (nmOf ns q) (rd_T66 ns q).f4 = true then 0 else 5)) ∧ Below w.heap.size w w':=by
 have hmf:=@hmf_ Tryz.prog
 have hkq:=hKI (rd_T66 ns q) (zAA ns q h0 h1)
 have hsz:=KidsIn.size hS h0 h1
 have hbx : Below w.heap.size w (w.alloc (.cells #[.pointer (some ⟨p,0,none⟩)] 87)):=zAa (Below.refl _ _) _
 obtain ⟨Wb,hWb⟩ : ∃ W_,W_ = w.alloc (.cells #[.pointer (some ⟨p,0,none⟩)] 87):=⟨_,rfl⟩
 rw [← hWb] at hbx
 obtain ⟨bo,g,r0,l,Lb,h⟩:=hS.below hbx
 have cp0:=bc_ h.hp 0
 have cb : Wb.cell? ⟨w.heap.size,0,none⟩ = some (.pointer (some ⟨p,0,none⟩)):=by rw [hWb]; exact (zAh (heap_alloc_new w _) 0).trans rfl
 obtain ⟨ad,A4,c4,eA,z0,z1,z2,z3,z4,l4,g4⟩:=at_T66 h.hC q h0 h1
 have e0:=eq_true h0
 have e1:=eq_true h1
 have hk0 : kdOf ns q = (rd_T66 ns q).f0:=rfl
 have ht0 : nmOf ns q = (rd_T66 ns q).f3.data.toList:=rfl
 obtain ⟨x,hx⟩ : ∃ x,x = rd_T66 ns q:=⟨_,rfl⟩
 rw [← hx] at z0 z1 z2 z3 z4 l4 g4 hkq hsz hk0 ht0 ⊢
 obtain ⟨k,n,at_,tx,kl⟩:=x
 dsimp only at z0 z1 z2 z3 z4 l4 g4 hkq hsz hk0 ht0 ⊢
 rw [hk] at hk0
 subst hk0
 have x3:=heap_alloc_new w (.cells #[.pointer (some ⟨p,0,none⟩)] 87)
 rw [← hWb] at x3
 have hb0 : Below w.heap.size w (Wb.alloc (.cells #[.int .i64 26,.int .i64 n,.int .i64 at_,.string tx,.slice A4 kl.length c4] 66)):=zAa hbx _
 have hbC : Below Wb.heap.size Wb (Wb.alloc (.cells #[.int .i64 26,.int .i64 n,.int .i64 at_,.string tx,.slice A4 kl.length c4] 66)):=zAa (Below.refl _ _) _
 replace x3:=zAj x3 (.cells #[.int .i64 26,.int .i64 n,.int .i64 at_,.string tx,.slice A4 kl.length c4] 66)
 have x5:=heap_alloc_new Wb (.cells #[.int .i64 26,.int .i64 n,.int .i64 at_,.string tx,.slice A4 kl.length c4] 66)
 rw [show Wb.heap.size = w.heap.size + 1 from by rw [hWb]; simp] at x5
 have HCW:=Lib.hid (fun (w' : World) (hb : Below (Wb.alloc (.cells #[.int .i64 26,.int .i64 n,.int .i64 at_,.string tx,.slice A4 kl.length c4] 66)).heap.size (Wb.alloc (.cells #[.int .i64 26,.int .i64 n,.int .i64 at_,.string tx,.slice A4 kl.length c4] 66)) w') => Kd.C_below (Kd.C_below g4 hbC) hb)
 obtain ⟨W0,hW0⟩ : ∃ W_,W_ = Wb.alloc (.cells #[.int .i64 26,.int .i64 n,.int .i64 at_,.string tx,.slice A4 kl.length c4] 66):=⟨_,rfl⟩
 rw [← hW0] at hb0 x3 x5 HCW
 have HB0:=Lib.hid hb0
 have X30:=Lib.hid x3
 have X50:=Lib.hid x5
 have HW0:=Lib.hid hW0
 have HS:=Lib.hid (fun (w' : World) (hb : Below w.heap.size w w') => hS.below hb)
 have HKQ:=Lib.hid hkq
 have hkl:=hkq.2
 have HSZ:=Lib.hid hsz
 have HT0:=Lib.hid ht0
 have HKI:=Lib.hid hKI
 cases eA
 clear h hb0 hbC x3 x5 hW0 hbx g4 hkq hsz hx hKI hk hS
 rw [HT0.out]
 have HO:=Lib.hid (operands_is p (some ad) ct ns root ol 26 n at_ tx A4 c4 kl HKQ.out.1 HKQ.out.2 W0 (HS.out W0 HB0.out) (HCW.out W0 (Below.refl _ _)) l4)
 obtain ⟨ob,hob⟩ : ∃ ob,ob = operandsF ns ol tx.data.toList kl:=⟨_,rfl⟩
 rw [← hob] at HO ⊢
 clear hob
 obtain ⟨R,hR⟩ : ∃ R : Int,R = if ob = true then 0 else 5:=⟨_,rfl⟩
 rw [← hR]
 have HR:=Lib.hid hR
 clear hR
 subst hWb
 go_enter Tryz.func34,Tryz.ntmps34
 go_wp2_with fail
 rw [← HW0.out]
 clear z0 z1 z2 z3 z4 cp0 cb e0 e1
 refine HO.out.mono ?_
 rintro e_ W1 ⟨rfl,hb_⟩
 have HB1:=Lib.hid (zAd (HB0.out) hb_)
 have X31:=Lib.hid (zAe (X30.out) hb_)
 have X51:=Lib.hid (zAe (X50.out) hb_)
 clear hb_
 go_wp2_with fail
 refine (told_is ob _).mono ?_
 rintro e_ w_ ⟨he_,rfl⟩
 rw [← HR.out] at he_
 subst he_
 go_wp2_with fail
 go_ret
 exact ⟨rfl,HB1.out⟩
theorem check_27 (p : Nat) (At : Option Addr) (ct : Nat) (ns : List S66) (root : Int) (ol : List Int) (q : Int) (h0 : 0 ≤ q) (h1 : q < ns.length) (hk : kdOf ns q = 27) (hKI : KidsIn ns) (w : World) (hS : Sc p At ct ns root ol w) :
  Calls Tryz.prog 34 #[.pointer (some ⟨p,0,none⟩),.int .i64 q] w fun e w' => e = .returned (.int .i64 (if operandsF ns ol (nmOf ns q) (rd_T66 ns q).f4 = true then 0 else 5)) ∧ Below w.heap.size w w':=by
 have hmf:=@hmf_ Tryz.prog
 have hkq:=hKI (rd_T66 ns q) (zAA ns q h0 h1)
 have hsz:=KidsIn.size hS h0 h1
 have hbx : Below w.heap.size w (w.alloc (.cells #[.pointer (some ⟨p,0,none⟩)] 87)):=zAa (Below.refl _ _) _
 obtain ⟨Wb,hWb⟩ : ∃ W_,W_ = w.alloc (.cells #[.pointer (some ⟨p,0,none⟩)] 87):=⟨_,rfl⟩
 rw [← hWb] at hbx
 obtain ⟨bo,g,r0,l,Lb,h⟩:=hS.below hbx
 have cp0:=bc_ h.hp 0
 have cb : Wb.cell? ⟨w.heap.size,0,none⟩ = some (.pointer (some ⟨p,0,none⟩)):=by rw [hWb]; exact (zAh (heap_alloc_new w _) 0).trans rfl
 obtain ⟨ad,A4,c4,eA,z0,z1,z2,z3,z4,l4,g4⟩:=at_T66 h.hC q h0 h1
 have e0:=eq_true h0
 have e1:=eq_true h1
 have hk0 : kdOf ns q = (rd_T66 ns q).f0:=rfl
 have ht0 : nmOf ns q = (rd_T66 ns q).f3.data.toList:=rfl
 obtain ⟨x,hx⟩ : ∃ x,x = rd_T66 ns q:=⟨_,rfl⟩
 rw [← hx] at z0 z1 z2 z3 z4 l4 g4 hkq hsz hk0 ht0 ⊢
 obtain ⟨k,n,at_,tx,kl⟩:=x
 dsimp only at z0 z1 z2 z3 z4 l4 g4 hkq hsz hk0 ht0 ⊢
 rw [hk] at hk0
 subst hk0
 have x3:=heap_alloc_new w (.cells #[.pointer (some ⟨p,0,none⟩)] 87)
 rw [← hWb] at x3
 have hb0 : Below w.heap.size w (Wb.alloc (.cells #[.int .i64 27,.int .i64 n,.int .i64 at_,.string tx,.slice A4 kl.length c4] 66)):=zAa hbx _
 have hbC : Below Wb.heap.size Wb (Wb.alloc (.cells #[.int .i64 27,.int .i64 n,.int .i64 at_,.string tx,.slice A4 kl.length c4] 66)):=zAa (Below.refl _ _) _
 replace x3:=zAj x3 (.cells #[.int .i64 27,.int .i64 n,.int .i64 at_,.string tx,.slice A4 kl.length c4] 66)
 have x5:=heap_alloc_new Wb (.cells #[.int .i64 27,.int .i64 n,.int .i64 at_,.string tx,.slice A4 kl.length c4] 66)
 rw [show Wb.heap.size = w.heap.size + 1 from by rw [hWb]; simp] at x5
 have HCW:=Lib.hid (fun (w' : World) (hb : Below (Wb.alloc (.cells #[.int .i64 27,.int .i64 n,.int .i64 at_,.string tx,.slice A4 kl.length c4] 66)).heap.size (Wb.alloc (.cells #[.int .i64 27,.int .i64 n,.int .i64 at_,.string tx,.slice A4 kl.length c4] 66)) w') => Kd.C_below (Kd.C_below g4 hbC) hb)
 obtain ⟨W0,hW0⟩ : ∃ W_,W_ = Wb.alloc (.cells #[.int .i64 27,.int .i64 n,.int .i64 at_,.string tx,.slice A4 kl.length c4] 66):=⟨_,rfl⟩
 rw [← hW0] at hb0 x3 x5 HCW
 have HB0:=Lib.hid hb0
 have X30:=Lib.hid x3
 have X50:=Lib.hid x5
 have HW0:=Lib.hid hW0
 have HS:=Lib.hid (fun (w' : World) (hb : Below w.heap.size w w') => hS.below hb)
 have HKQ:=Lib.hid hkq
 have hkl:=hkq.2
 have HSZ:=Lib.hid hsz
 have HT0:=Lib.hid ht0
 have HKI:=Lib.hid hKI
 cases eA
 clear h hb0 hbC x3 x5 hW0 hbx g4 hkq hsz hx hKI hk hS
 rw [HT0.out]
 have HO:=Lib.hid (operands_is p (some ad) ct ns root ol 27 n at_ tx A4 c4 kl HKQ.out.1 HKQ.out.2 W0 (HS.out W0 HB0.out) (HCW.out W0 (Below.refl _ _)) l4)
 obtain ⟨ob,hob⟩ : ∃ ob,ob = operandsF ns ol tx.data.toList kl:=⟨_,rfl⟩
 rw [← hob] at HO ⊢
 clear hob
 obtain ⟨R,hR⟩ : ∃ R : Int,R = if ob = true then 0 else 5:=⟨_,rfl⟩
 rw [← hR]
 have HR:=Lib.hid hR
 clear hR
 subst hWb
 go_enter Tryz.func34,Tryz.ntmps34
 go_wp2_with fail
 rw [← HW0.out]
 clear z0 z1 z2 z3 z4 cp0 cb e0 e1
 refine HO.out.mono ?_
 rintro e_ W1 ⟨rfl,hb_⟩
 have HB1:=Lib.hid (zAd (HB0.out) hb_)
 have X31:=Lib.hid (zAe (X30.out) hb_)
 have X51:=Lib.hid (zAe (X50.out) hb_)
 clear hb_
 go_wp2_with fail
 refine (told_is ob _).mono ?_
 rintro e_ w_ ⟨he_,rfl⟩
 rw [← HR.out] at he_
 subst he_
 go_wp2_with fail
 go_ret
 exact ⟨rfl,HB1.out⟩
end Go.Proofs.YtkhlfdcjgooogaaGreat.P
