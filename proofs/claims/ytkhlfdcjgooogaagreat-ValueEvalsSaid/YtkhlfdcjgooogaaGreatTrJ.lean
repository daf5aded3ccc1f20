import Derived.Test.YtkhlfdcjgooogaaGreatPf103
import Derived.Test.YtkhlfdcjgooogaaGreatHsizes
import Derived.Outline
import Derived.Laws.EntriesVeiled
import Derived.Lib.Hide
import Derived.Test.YtkhlfdcjgooogaaGreatHback
import Derived.Test.YtkhlfdcjgooogaaGreatWMore
set_option maxRecDepth 100000
set_option maxHeartbeats 16000000
set_option linter.unusedVariables false
set_option linter.unusedSimpArgs false
set_option linter.unusedSectionVars false
namespace Go.Proofs.YtkhlfdcjgooogaaGreat.P
open Go.RowKit Go.Proofs.YtkhlfdcjgooogaaGreatW.PrintWords Go.Proofs.YtkhlfdcjgooogaaGreatW.PrintLast Go.Proofs.YtkhlfdcjgooogaaGreatW.PrintMore
attribute [local go_sem] zAP zAQ max_two min_two zAK zAJ zAS zAR
def zAE.f (l0_0 : List (S66)) (a0_1 : Int) : Option (Bool):=if (l0_0.length : Int) = 0 then (some false) else (if (l0_0.length : Int) > 4000 then (some false) else (if a0_1 = (wrap64 ((l0_0.length : Int) - 1)) then ((zAT.f l0_0).bind fun bt179 => (if bt179.2 = true then (if 0 ≤ a0_1 then (if a0_1 < (bt179.1.length : Int) then (some ((rd bt179.1 a0_1) == (bt179.1.length : Int))) else (none)) else (none)) else (some false))) else (some false)))
theorem zAE.calls (A0_0 : Option Addr) (c0_0 : Nat) (l0_0 : List (S66)) (a0_1 : Int) (r : Bool) (w : World) (hr0_0 : Kd.C k66 w A0_0 l0_0.length l0_0) (hc0_0 : l0_0.length ≤ c0_0) (h : zAE.f l0_0 a0_1 = some r) :
  Calls Tryz.prog 55 #[.agg #[.slice A0_0 l0_0.length c0_0,.int .i64 a0_1]] w fun e w' => e = .returned (.bool r) ∧ Below w.heap.size w w':=by
 have hu24:=Tryz.underlying24
 have HR0_0:=Aside0.mk hr0_0
 have HC0_0:=Aside0.mk hc0_0
 clear hr0_0 hc0_0
 have HB:=Aside0.mk (Below.refl w.heap.size w)
 have H : (if (l0_0.length : Int) = 0 then (some false) else (if (l0_0.length : Int) > 4000 then (some false) else (if a0_1 = (wrap64 ((l0_0.length : Int) - 1)) then ((zAT.f l0_0).bind fun bt179 => (if bt179.2 = true then (if 0 ≤ a0_1 then (if a0_1 < (bt179.1.length : Int) then (some ((rd bt179.1 a0_1) == (bt179.1.length : Int))) else (none)) else (none)) else (some false))) else (some false)))) = some r:=h
 clear h
 by_cases c2 : (l0_0.length : Int) = 0
 ·rw [if_pos c2] at H
  have c2b0 : ((l0_0.length : Int) == 0) = true:=beq_iff_eq.mpr c2
  have c2b1 : ((l0_0.length : Int) != 0) = false:=bne_eq_false_iff_eq.mpr c2
  clear c2
  obtain rfl:=Option.some.inj H
  go_enter Tryz.func55,Tryz.ntmps55
  go_wp2_with (first | ((with_reducible refine zAZ (N:=1) rfl ?_); (try (refine zBO (by rfl) ?_; dsimp only)); refine zBa ?hg (N:=1) ?hd (cs:=#[.slice A0_0 l0_0.length c0_0,.int .i64 a0_1]) (t:=24) ?hr ?_; (case hd => rfl); (case hg => rfl); (case hr => first | (go_simp; done) | (go_simp; rfl)); intro gb178 hg w3 hbox hb; have n0_:=Aside0.mk (zAd (by repeat (first | (with_reducible first | exact HB.out | apply zAa | apply zAf | apply zAi) | exact HB.out)) hb); have n1_:=Aside0.mk (hbox); have n2_:=Aside0.mk ((by rw [hg]; exact (zAy (by repeat (first | (with_reducible first | exact HB.out | apply zAa | apply zAf | apply zAi) | exact HB.out))) : w.heap.size ≤ gb178)); have n3_:=Aside0.mk ((by rw [hg]; exact (zAy (by repeat (first | (with_reducible first | exact HB.out | apply zAa | apply zAf | apply zAi) | exact HB.out))) : w.heap.size ≤ gb178)); clear HB; have HB:=n0_; have BK178:=n1_; have GW178:=n2_; have GE178:=n3_; clear n0_ n1_ n2_ n3_; clear hb hbox hg; have hcz4_0 : w3.cell? ⟨gb178,0,none⟩ = some (.slice A0_0 l0_0.length c0_0):=(zAh BK178.out 0).trans rfl; have hcz4_1 : w3.cell? ⟨gb178,1,none⟩ = some (.int .i64 a0_1):=(zAh BK178.out 1).trans rfl; have hfz4_0:=zAc BK178.out 0; have hfz4_1:=zAc BK178.out 1))
  go_ret
  exact ⟨by first | rfl | (simp [zAs,zAt] <;> rfl) | (simp [*,zAs,zAt] <;> rfl),by repeat (first | (with_reducible first | exact HB.out | apply zAa | apply zAf | apply zAi | refine zAu ?_ GE178.out) | exact HB.out)⟩
 ·rw [if_neg c2] at H
  have c2b0 : ((l0_0.length : Int) == 0) = false:=beq_eq_false_iff_ne.mpr c2
  have c2b1 : ((l0_0.length : Int) != 0) = true:=bne_iff_ne.mpr c2
  have c2b2 : ¬ (l0_0 = []):=fun h_ => c2 (by rw [h_]; rfl)
  by_cases c5 : (l0_0.length : Int) > 4000
  ·rw [if_pos c5] at H
   have c5b0 : decide (4000 < (l0_0.length : Int)) = true:=decide_eq_true c5
   have c5b1 : decide (4000 < l0_0.length) = true:=decide_eq_true (by omega)
   clear c5
   obtain rfl:=Option.some.inj H
   go_enter Tryz.func55,Tryz.ntmps55
   go_wp2_with (first | ((with_reducible refine zAZ (N:=1) rfl ?_); (try (refine zBO (by rfl) ?_; dsimp only)); refine zBa ?hg (N:=1) ?hd (cs:=#[.slice A0_0 l0_0.length c0_0,.int .i64 a0_1]) (t:=24) ?hr ?_; (case hd => rfl); (case hg => rfl); (case hr => first | (go_simp; done) | (go_simp; rfl)); intro gb178 hg w6 hbox hb; have n0_:=Aside0.mk (zAd (by repeat (first | (with_reducible first | exact HB.out | apply zAa | apply zAf | apply zAi) | exact HB.out)) hb); have n1_:=Aside0.mk (hbox); have n2_:=Aside0.mk ((by rw [hg]; exact (zAy (by repeat (first | (with_reducible first | exact HB.out | apply zAa | apply zAf | apply zAi) | exact HB.out))) : w.heap.size ≤ gb178)); have n3_:=Aside0.mk ((by rw [hg]; exact (zAy (by repeat (first | (with_reducible first | exact HB.out | apply zAa | apply zAf | apply zAi) | exact HB.out))) : w.heap.size ≤ gb178)); clear HB; have HB:=n0_; have BK178:=n1_; have GW178:=n2_; have GE178:=n3_; clear n0_ n1_ n2_ n3_; clear hb hbox hg; have hcz7_0 : w6.cell? ⟨gb178,0,none⟩ = some (.slice A0_0 l0_0.length c0_0):=(zAh BK178.out 0).trans rfl; have hcz7_1 : w6.cell? ⟨gb178,1,none⟩ = some (.int .i64 a0_1):=(zAh BK178.out 1).trans rfl; have hfz7_0:=zAc BK178.out 0; have hfz7_1:=zAc BK178.out 1))
   go_ret
   exact ⟨by first | rfl | (simp [zAs,zAt] <;> rfl) | (simp [*,zAs,zAt] <;> rfl),by repeat (first | (with_reducible first | exact HB.out | apply zAa | apply zAf | apply zAi | refine zAu ?_ GE178.out) | exact HB.out)⟩
  ·rw [if_neg c5] at H
   have c5b0 : decide (4000 < (l0_0.length : Int)) = false:=decide_eq_false c5
   have c5b1 : decide (4000 < l0_0.length) = false:=decide_eq_false (by omega)
   clear c5
   by_cases c8 : a0_1 = (wrap64 ((l0_0.length : Int) - 1))
   ·rw [if_pos c8] at H
    have c8b0 : (a0_1 == (wrap64 ((l0_0.length : Int) - 1))) = true:=beq_iff_eq.mpr c8
    have c8b1 : (a0_1 != (wrap64 ((l0_0.length : Int) - 1))) = false:=bne_eq_false_iff_eq.mpr c8
    clear c8
    replace H:=Option.bind_eq_some_iff.mp H
    obtain ⟨⟨t179,t180⟩,A90,H⟩:=H
    replace H : (if t180 = true then (if 0 ≤ a0_1 then (if a0_1 < (t179.length : Int) then (some ((rd t179 a0_1) == (t179.length : Int))) else (none)) else (none)) else (some false)) = some r:=H
    have A9:=Aside0.mk A90
    clear A90
    by_cases c10 : t180 = true
    ·subst c10
     have H1 : (if 0 ≤ a0_1 then (if a0_1 < (t179.length : Int) then (some ((rd t179 a0_1) == (t179.length : Int))) else (none)) else (none)) = some r:=by rw [if_pos rfl] at H; exact H
     clear H
     have H:=H1
     clear H1
     by_cases c11 : 0 ≤ a0_1
     ·rw [if_pos c11] at H
      have c11b0 : decide (0 ≤ a0_1) = true:=decide_eq_true c11
      clear c11
      by_cases c12 : a0_1 < (t179.length : Int)
      ·rw [if_pos c12] at H
       have c12b0 : decide (a0_1 < (t179.length : Int)) = true:=decide_eq_true c12
       clear c12
       obtain rfl:=Option.some.inj H
       go_enter Tryz.func55,Tryz.ntmps55
       go_wp2_with (first | ((with_reducible refine zAZ (N:=1) rfl ?_); (try (refine zBO (by rfl) ?_; dsimp only)); refine zBa ?hg (N:=1) ?hd (cs:=#[.slice A0_0 l0_0.length c0_0,.int .i64 a0_1]) (t:=24) ?hr ?_; (case hd => rfl); (case hg => rfl); (case hr => first | (go_simp; done) | (go_simp; rfl)); intro gb178 hg w13 hbox hb; have n0_:=Aside0.mk (zAd (by repeat (first | (with_reducible first | exact HB.out | apply zAa | apply zAf | apply zAi) | exact HB.out)) hb); have n1_:=Aside0.mk (hbox); have n2_:=Aside0.mk ((by rw [hg]; exact (zAy (by repeat (first | (with_reducible first | exact HB.out | apply zAa | apply zAf | apply zAi) | exact HB.out))) : w.heap.size ≤ gb178)); have n3_:=Aside0.mk ((by rw [hg]; exact (zAy (by repeat (first | (with_reducible first | exact HB.out | apply zAa | apply zAf | apply zAi) | exact HB.out))) : w.heap.size ≤ gb178)); clear HB; have HB:=n0_; have BK178:=n1_; have GW178:=n2_; have GE178:=n3_; clear n0_ n1_ n2_ n3_; clear hb hbox hg; have hcz14_0 : w13.cell? ⟨gb178,0,none⟩ = some (.slice A0_0 l0_0.length c0_0):=(zAh BK178.out 0).trans rfl; have hcz14_1 : w13.cell? ⟨gb178,1,none⟩ = some (.int .i64 a0_1):=(zAh BK178.out 1).trans rfl; have hfz14_0:=zAc BK178.out 0; have hfz14_1:=zAc BK178.out 1) | ((with_reducible refine zAF (f:=92) rfl ?_); refine goesL_ (some 27) rfl rfl Tryz.func92 (by kernel_rfl) rfl #[.slice A0_0 l0_0.length c0_0] rfl (by (try simp only [List.map_toArray,List.map_cons,List.map_nil]); first | done | rfl | (simp only [List.length_drop,List.length_take]; rfl)) ?_; (with_reducible refine (zAT.calls _ _ l0_0 t179 true _ ?side1 ?side2 A9.out).mono ?_); (case side1 => repeat (first | exact (Kd.C_below HR0_0.out HB.out) | (with_reducible refine Kd.C_alloc ?_ _) | (with_reducible refine Kd.C_drewN ?_ _) | (with_reducible refine Kd.C_drew ?_))); (case side2 => exact HC0_0.out); rintro e w15 ⟨v181,rfl,ho0,hb⟩; refine ⟨_,rfl,?_⟩; have n0_:=Aside0.mk (Kd.R_lower ho0 (zAy (by repeat (first | (with_reducible first | exact HB.out | apply zAa | apply zAf | apply zAi | refine zAu ?_ GE178.out) | exact HB.out)))); have n1_:=Aside0.mk (zAe (g:=gb178) (o:=.cells #[.slice A0_0 l0_0.length c0_0,.int .i64 a0_1] 24 (0,0)) (by (with_reducible repeat (first | apply zAo | apply zAl | apply zAj)); exact BK178.out) hb); have n2_:=Aside0.mk (zAd (by repeat (first | (with_reducible first | exact HB.out | apply zAa | apply zAf | apply zAi | refine zAu ?_ GE178.out) | exact HB.out)) hb); clear BK178; clear HB; have HO182:=n0_; have BK178:=n1_; have HB:=n2_; clear n0_ n1_ n2_; (try clear hb); (try clear hb2); (try clear hk); (try clear hi); (try clear ho0); have hcz16_0 : w15.cell? ⟨gb178,0,none⟩ = some (.slice A0_0 l0_0.length c0_0):=(zAh BK178.out 0).trans rfl; have hcz16_1 : w15.cell? ⟨gb178,1,none⟩ = some (.int .i64 a0_1):=(zAh BK178.out 1).trans rfl; have hfz16_0:=zAc BK178.out 0; have hfz16_1:=zAc BK178.out 1; obtain ⟨Ao17,co17,eo17⟩:=Kd.R_slice HO182.out; subst eo17; have p183 : 0 ≤ (a0_1 : Int):=of_decide_eq_true (by first | (with_reducible assumption) | assumption); have q183 : a0_1 < (t179.length : Int):=of_decide_eq_true (by first | (with_reducible assumption) | assumption); obtain ⟨ad183,e183,hx183_0⟩:=Kd.at_int (Kd.zBA HO182.out).2.2 a0_1 p183 q183; cases e183; replace p183:=eq_true p183; replace q183:=eq_true q183))
       go_ret
       exact ⟨by first | rfl | (simp [zAs,zAt] <;> rfl) | (simp [*,zAs,zAt] <;> rfl),by repeat (first | (with_reducible first | exact HB.out | apply zAa | apply zAf | apply zAi | refine zAu ?_ GE178.out) | exact HB.out)⟩
      ·rw [if_neg c12] at H
       exact absurd H (by simp)
     ·rw [if_neg c11] at H
      exact absurd H (by simp)
    ·replace c10:=Bool.eq_false_iff.mpr c10
     subst c10
     have H1 : (some false) = some r:=by rw [if_neg (show ¬ (false = true) by decide)] at H; exact H
     clear H
     have H:=H1
     clear H1
     obtain rfl:=Option.some.inj H
     go_enter Tryz.func55,Tryz.ntmps55
     go_wp2_with (first | ((with_reducible refine zAZ (N:=1) rfl ?_); (try (refine zBO (by rfl) ?_; dsimp only)); refine zBa ?hg (N:=1) ?hd (cs:=#[.slice A0_0 l0_0.length c0_0,.int .i64 a0_1]) (t:=24) ?hr ?_; (case hd => rfl); (case hg => rfl); (case hr => first | (go_simp; done) | (go_simp; rfl)); intro gb178 hg w18 hbox hb; have n0_:=Aside0.mk (zAd (by repeat (first | (with_reducible first | exact HB.out | apply zAa | apply zAf | apply zAi) | exact HB.out)) hb); have n1_:=Aside0.mk (hbox); have n2_:=Aside0.mk ((by rw [hg]; exact (zAy (by repeat (first | (with_reducible first | exact HB.out | apply zAa | apply zAf | apply zAi) | exact HB.out))) : w.heap.size ≤ gb178)); have n3_:=Aside0.mk ((by rw [hg]; exact (zAy (by repeat (first | (with_reducible first | exact HB.out | apply zAa | apply zAf | apply zAi) | exact HB.out))) : w.heap.size ≤ gb178)); clear HB; have HB:=n0_; have BK178:=n1_; have GW178:=n2_; have GE178:=n3_; clear n0_ n1_ n2_ n3_; clear hb hbox hg; have hcz19_0 : w18.cell? ⟨gb178,0,none⟩ = some (.slice A0_0 l0_0.length c0_0):=(zAh BK178.out 0).trans rfl; have hcz19_1 : w18.cell? ⟨gb178,1,none⟩ = some (.int .i64 a0_1):=(zAh BK178.out 1).trans rfl; have hfz19_0:=zAc BK178.out 0; have hfz19_1:=zAc BK178.out 1) | ((with_reducible refine zAF (f:=92) rfl ?_); refine goesL_ (some 27) rfl rfl Tryz.func92 (by kernel_rfl) rfl #[.slice A0_0 l0_0.length c0_0] rfl (by (try simp only [List.map_toArray,List.map_cons,List.map_nil]); first | done | rfl | (simp only [List.length_drop,List.length_take]; rfl)) ?_; (with_reducible refine (zAT.calls _ _ l0_0 t179 false _ ?side1 ?side2 A9.out).mono ?_); (case side1 => repeat (first | exact (Kd.C_below HR0_0.out HB.out) | (with_reducible refine Kd.C_alloc ?_ _) | (with_reducible refine Kd.C_drewN ?_ _) | (with_reducible refine Kd.C_drew ?_))); (case side2 => exact HC0_0.out); rintro e w20 ⟨v181,rfl,ho0,hb⟩; refine ⟨_,rfl,?_⟩; have n0_:=Aside0.mk (Kd.R_lower ho0 (zAy (by repeat (first | (with_reducible first | exact HB.out | apply zAa | apply zAf | apply zAi | refine zAu ?_ GE178.out) | exact HB.out)))); have n1_:=Aside0.mk (zAe (g:=gb178) (o:=.cells #[.slice A0_0 l0_0.length c0_0,.int .i64 a0_1] 24 (0,0)) (by (with_reducible repeat (first | apply zAo | apply zAl | apply zAj)); exact BK178.out) hb); have n2_:=Aside0.mk (zAd (by repeat (first | (with_reducible first | exact HB.out | apply zAa | apply zAf | apply zAi | refine zAu ?_ GE178.out) | exact HB.out)) hb); clear BK178; clear HB; have HO182:=n0_; have BK178:=n1_; have HB:=n2_; clear n0_ n1_ n2_; (try clear hb); (try clear hb2); (try clear hk); (try clear hi); (try clear ho0)))
     go_ret
     exact ⟨by first | rfl | (simp [zAs,zAt] <;> rfl) | (simp [*,zAs,zAt] <;> rfl),by repeat (first | (with_reducible first | exact HB.out | apply zAa | apply zAf | apply zAi | refine zAu ?_ GE178.out) | exact HB.out)⟩
   ·rw [if_neg c8] at H
    have c8b0 : (a0_1 == (wrap64 ((l0_0.length : Int) - 1))) = false:=beq_eq_false_iff_ne.mpr c8
    have c8b1 : (a0_1 != (wrap64 ((l0_0.length : Int) - 1))) = true:=bne_iff_ne.mpr c8
    obtain rfl:=Option.some.inj H
    go_enter Tryz.func55,Tryz.ntmps55
    go_wp2_with (first | ((with_reducible refine zAZ (N:=1) rfl ?_); (try (refine zBO (by rfl) ?_; dsimp only)); refine zBa ?hg (N:=1) ?hd (cs:=#[.slice A0_0 l0_0.length c0_0,.int .i64 a0_1]) (t:=24) ?hr ?_; (case hd => rfl); (case hg => rfl); (case hr => first | (go_simp; done) | (go_simp; rfl)); intro gb178 hg w21 hbox hb; have n0_:=Aside0.mk (zAd (by repeat (first | (with_reducible first | exact HB.out | apply zAa | apply zAf | apply zAi) | exact HB.out)) hb); have n1_:=Aside0.mk (hbox); have n2_:=Aside0.mk ((by rw [hg]; exact (zAy (by repeat (first | (with_reducible first | exact HB.out | apply zAa | apply zAf | apply zAi) | exact HB.out))) : w.heap.size ≤ gb178)); have n3_:=Aside0.mk ((by rw [hg]; exact (zAy (by repeat (first | (with_reducible first | exact HB.out | apply zAa | apply zAf | apply zAi) | exact HB.out))) : w.heap.size ≤ gb178)); clear HB; have HB:=n0_; have BK178:=n1_; have GW178:=n2_; have GE178:=n3_; clear n0_ n1_ n2_ n3_; clear hb hbox hg; have hcz22_0 : w21.cell? ⟨gb178,0,none⟩ = some (.slice A0_0 l0_0.length c0_0):=(zAh BK178.out 0).trans rfl; have hcz22_1 : w21.cell? ⟨gb178,1,none⟩ = some (.int .i64 a0_1):=(zAh BK178.out 1).trans rfl; have hfz22_0:=zAc BK178.out 0; have hfz22_1:=zAc BK178.out 1))
    go_ret
    exact ⟨by first | rfl | (simp [zAs,zAt] <;> rfl) | (simp [*,zAs,zAt] <;> rfl),by repeat (first | (with_reducible first | exact HB.out | apply zAa | apply zAf | apply zAi | refine zAu ?_ GE178.out) | exact HB.out)⟩
theorem bcell {W w1 : World} (hb : Below W.heap.size W w1) : (∀ b o,b < W.heap.size → w1.cell? ⟨b,o,none⟩ = W.cell? ⟨b,o,none⟩) ∧ (∀ b o,b < W.heap.size → w1.frozen? ⟨b,o,none⟩ = W.frozen? ⟨b,o,none⟩) :=
 ⟨fun b o h => hb.cell (p:=⟨b,o,none⟩) h,fun b o h => hb.frozen (p:=⟨b,o,none⟩) h⟩
def zAp.kids (deep : Int → Option Int) : List Int → Int → Option Int
 | [],d => some d
 | x :: xs,d => (deep x).bind fun r => zAp.kids deep xs (mx d r)
def zAp.deep : Nat → List S66 → Int → Option Int
 | 0,_,_ => none
 | k + 1,l,p => if 0 ≤ p then (if p < (l.length : Int) then (zAp.kids (zAp.deep k l) (rd_T66 l p).f4 0).bind fun d => some (wrap64 (d + 1)) else none) else none
def zAp.f (k : Nat) (l0_0 : List S66) (a0_1 : Int) : Option Int :=
 (zAE.f l0_0 a0_1).bind fun t => if t = true then zAp.deep k l0_0 a0_1 else some 0
theorem zAp.kids_mono {f g : Int → Option Int} (h : ∀ x,LeO (f x) (g x)) : ∀ xs d,LeO (zAp.kids f xs d) (zAp.kids g xs d)
 | [],d => LeO.refl _
 | x :: xs,d => by
  simp only [zAp.kids]
  refine LeO.bind (h x) (fun r => zAp.kids_mono h xs _)
theorem zAp.deep_mono : ∀ k l p,LeO (zAp.deep k l p) (zAp.deep (k + 1) l p)
 | 0,l,p => by intro r h; simp [zAp.deep] at h
 | k + 1,l,p => by
  rw [zAp.deep,zAp.deep]
  refine LeO.ite (LeO.ite (LeO.bind (zAp.kids_mono (fun x => zAp.deep_mono k l x) _ _) (fun _ => LeO.refl _)) (LeO.refl _)) (LeO.refl _)
theorem zAp.mono : ∀ a0 a1 k,LeO (zAp.f k a0 a1) (zAp.f (k + 1) a0 a1):=by
 intro a0 a1 k
 unfold zAp.f
 refine LeO.bind (LeO.refl _) (fun t => ?_)
 exact LeO.ite (zAp.deep_mono k a0 a1) (LeO.refl _)
theorem zAp.deep_calls (Bt Bd : Nat) (A : Option Addr) (c : Nat) (l : List S66) (root : Int) (w : World)
  (hT : w.cell? ⟨Bt,0,none⟩ = some (.slice A l.length c)) (hD : w.cell? ⟨Bd,0,none⟩ = some (.func (.func 93) #[] #[.pointer (some ⟨Bt,0,none⟩),.pointer (some ⟨Bd,0,none⟩)]))
  (hr : Kd.C k66 w A l.length l) (hc : l.length ≤ c) : ∀ (k : Nat) (p r : Int),zAp.deep k l p = some r →
  Calls Tryz.prog 93 #[.int .i64 p,.pointer (some ⟨Bt,0,none⟩),.pointer (some ⟨Bd,0,none⟩)] w fun e w' => e = .returned (.int .i64 r) ∧ w' = w
 | 0,p,r,h => by simp [zAp.deep] at h
 | k + 1,p,r,h => by
  have IH:=Lib.hid (zAp.deep_calls Bt Bd A c l root w hT hD hr hc k)
  have HR:=Aside0.mk hr
  have HC:=Aside0.mk hc
  clear hr hc
  rw [zAp.deep] at h
  by_cases h0 : 0 ≤ p
  ·rw [if_pos h0] at h
   by_cases h1 : p < (l.length : Int)
   ·rw [if_pos h1] at h
    obtain ⟨d,hd,hrd⟩:=Option.bind_eq_some_iff.1 h
    clear h
    obtain rfl:=Option.some.inj hrd
    clear hrd
    obtain ⟨ad,A4,c4,e,_,_,_,_,hk4,hl4,hC4⟩:=at_T66 HR.out p h0 h1
    cases e
    have hbnd : (rd_T66 l p).f4.length ≤ 9223372036854775807:=hC4.2.1
    have HC4:=Aside0.mk hC4
    have HL4:=Aside0.mk hl4
    clear hC4 hl4
    have HD:=Aside0.mk hd
    clear hd
    go_enter Tryz.func93,Tryz.ntmps93
    go_wp2
    go_loop [5,15] (fun v5 v15 => ∃ (i : Nat) (dv : Int),i ≤ (rd_T66 l p).f4.length ∧ v5 = .int .i64 dv ∧ v15 = .int .i64 (i : Int) ∧ Aside0 (zAp.kids (zAp.deep k l) ((rd_T66 l p).f4.drop i) dv = some d)) (fun _ v15 => (rd_T66 l p).f4.length - (intOf v15).toNat)
    case atStart => exact ⟨0,0,Nat.zero_le _,rfl,rfl,by simpa using HD⟩
    case round =>
     obtain ⟨i,dv,hi,rfl,rfl,HK⟩:=hrel
     by_cases hlt : i < (rd_T66 l p).f4.length
     ·have hK:=HK.out
      rw [List.drop_eq_getElem_cons hlt,zAp.kids] at hK
      obtain ⟨rx,hx,hK2⟩:=Option.bind_eq_some_iff.1 hK
      clear hK
      have HX:=Lib.hid hx
      have HK2:=Aside0.mk hK2
      clear hx hK2 HK
      obtain ⟨ad4,e4,hcell⟩:=Kd.at_int HC4.out (i : Int) (by omega) (by omega)
      cases e4
      have hq : rd (rd_T66 l p).f4 (i : Int) = (rd_T66 l p).f4[i]:=by simp [rd,hlt]
      rw [hq,Int.toNat_natCast] at hcell
      clear hq
      go_wp2_with (go_at_call 93; refine (IH.out _ rx HX.out).mono ?_; rintro e w' ⟨rfl,rfl⟩)
      go_round
      case rel => exact ⟨i + 1,mx dv rx,by omega,rfl,by go_num,HK2⟩
      case measure => simp [intOf]; omega
     ·have hie : i = (rd_T66 l p).f4.length:=by omega
      subst hie
      have hK:=HK.out
      rw [List.drop_length,zAp.kids] at hK
      obtain rfl:=Option.some.inj hK
      clear hK HK
      go_wp2
      go_ret
      exact ⟨rfl,rfl⟩
   ·rw [if_neg h1] at h; cases h
  ·rw [if_neg h0] at h; cases h
theorem zAp.calls (k : Nat) (A0_0 : Option Addr) (c0_0 : Nat) (l0_0 : List S66) (a0_1 : Int) (r : Int) (w : World) (hr0_0 : Kd.C k66 w A0_0 l0_0.length l0_0) (hc0_0 : l0_0.length ≤ c0_0) (h : zAp.f k l0_0 a0_1 = some r) :
  Calls Tryz.prog 56 #[.agg #[.slice A0_0 l0_0.length c0_0,.int .i64 a0_1]] w fun e w' => e = .returned (.int .i64 r) ∧ Below w.heap.size w w':=by
 have HR:=Aside0.mk hr0_0
 have HC:=Aside0.mk hc0_0
 clear hr0_0 hc0_0
 unfold zAp.f at h
 obtain ⟨b,hb,hf⟩:=Option.bind_eq_some_iff.1 h
 clear h
 have HS:=Lib.hid hb
 clear hb
 have hu24:=Tryz.underlying24
 cases b with
 | false =>
  obtain rfl:=Option.some.inj hf
  clear hf
  go_enter Tryz.func56,Tryz.ntmps56
  go_wp2_with (go_at_call 55; refine (zAE.calls _ _ l0_0 a0_1 false _ (Kd.C_below HR.out ((Below.refl _ _).alloc (Nat.le_refl _) _)) HC.out HS.out).mono ?_; rintro e w' ⟨rfl,hb⟩)
  go_ret
  exact ⟨rfl,((Below.refl _ _).alloc (Nat.le_refl _) _).trans (hb.mono (by simp))⟩
 | true =>
  have HF:=Lib.hid (show zAp.deep k l0_0 a0_1 = some r from hf)
  clear hf
  go_enter Tryz.func56,Tryz.ntmps56
  go_wp2_with (go_at_call 55; refine (zAE.calls _ _ l0_0 a0_1 true _ (Kd.C_below HR.out ((Below.refl _ _).alloc (Nat.le_refl _) _)) HC.out HS.out).mono ?_; rintro e w1 ⟨rfl,hb⟩; have e0 : w1.cell? ⟨w.heap.size,0,none⟩ = some (.slice A0_0 l0_0.length c0_0):=(hb.cell (p:=⟨w.heap.size,0,none⟩) (by simp)).trans (by go_simp); have e1 : w1.cell? ⟨w.heap.size,1,none⟩ = some (.int .i64 a0_1):=(hb.cell (p:=⟨w.heap.size,1,none⟩) (by simp)).trans (by go_simp); have hz1 : w.heap.size < w1.heap.size:=by have:=hb.size; simp at this; omega)
  refine (zAp.deep_calls w.heap.size w1.heap.size A0_0 c0_0 l0_0 a0_1 _ ?hT ?hD ?hr HC.out k _ r HF.out).mono ?_
  case hT => go_simp
  case hD => go_simp
  case hr => exact Kd.C_below (Kd.C_below HR.out ((Below.refl _ _).alloc (Nat.le_refl _) _)) (((hb.mono (Nat.le_refl _)).alloc hb.size _))
  rintro e w' ⟨rfl,rfl⟩
  go_wp2
  go_ret
  exact ⟨rfl,(((Below.refl _ _).alloc (Nat.le_refl _) _).trans (hb.mono (by simp))).alloc (by omega) _⟩
def okN (nodes : List S66) (x : S66) : Bool:=nodeOk nodes x.f0 x.f1 x.f3 x.f4
def Fit (nodes : List S66) : Prop:=nodes.length ≤ 4000 ∧ ∀ x ∈ nodes,(∀ k ∈ x.f4,0 ≤ k ∧ k < nodes.length) ∧ x.f4.length ≤ 4000 ∧ x.f3.size ≤ 140737488351232
theorem rd24_at (xs : List S66) (i : Nat) (h : i < xs.length) : rd_T66 xs (i : Int) = xs[i]:=by
 simp [rd_T66,List.getD_eq_getElem?_getD,h]
theorem find_is (g : Nat) (At : Option Addr) (ct : Nat) (nodes : List S66) (root : Int) (hF : Fit nodes) (w : World) (hE : Env w) (hT : w.heap[g]? = some (.cells #[.slice At nodes.length ct,.int .i64 root] 24 (0,0))) (hC : Kd.C k66 w At nodes.length nodes) (hct : nodes.length ≤ ct) :
  Calls Tryz.prog 94 #[.slice At nodes.length ct,.func (.func 58) #[] #[.pointer (some ⟨g,0,none⟩)]] w fun e w' => ∃ v : Int,e = .returned (.int .i64 v) ∧ Hid (decide (0 ≤ v) = !(nodes.all (okN nodes))) ∧ Below w.heap.size w w':=by
 have HF:=Lib.hid hF
 have HE:=Lib.hid hE
 have HT:=Lib.hid hT
 have HC:=Lib.hid hC
 have hnl:=hF.1
 clear hF hE hT hC
 go_enter Tryz.func94,Tryz.ntmps94
 go_wp2_with fail
 go_loopg [8] (nodes.length + 1) (fun kq v8 W => ∃ i : Nat,v8 = .int .i64 i ∧ i ≤ nodes.length ∧ Hid (i + kq = nodes.length + 1) ∧ Hid ((nodes.take i).all (okN nodes) = true) ∧ Hid (Below w.heap.size w W))
 case atStart => exact ⟨0,rfl,Nat.zero_le _,Lib.hid (by omega),Lib.hid rfl,Lib.hid (Below.refl _ _)⟩
 case round =>
  obtain ⟨i,rfl,hi,HN,HA,HB⟩:=hrel
  by_cases hlt : i < nodes.length
  ·obtain ⟨ad,A4,c4,eA,z0,z1,z2,z3,z4,l4,g4⟩:=at_T66 (Kd.C_below HC.out HB.out) (i : Int) (by omega) (by omega)
   have hx:=rd24_at nodes i hlt
   have hfx:=HF.out.2 nodes[i] (List.getElem_mem hlt)
   rw [← hx] at hfx
   have htk : nodes.take (i + 1) = nodes.take i ++ [rd_T66 nodes (i : Int)]:=by rw [hx]; exact List.take_succ_eq_append_getElem hlt
   have hmem : rd_T66 nodes (i : Int) ∈ nodes:=by rw [hx]; exact List.getElem_mem hlt
   rw [Int.toNat_natCast] at z0 z1 z2 z3 z4
   obtain ⟨x,hxx⟩ : ∃ x,x = rd_T66 nodes (i : Int):=⟨_,rfl⟩
   rw [← hxx] at z0 z1 z2 z3 z4 l4 g4 hfx htk hmem
   obtain ⟨k,n,at_,tx,kl⟩:=x
   cases eA
   have HTK:=Lib.hid htk
   have HMEM:=Lib.hid hmem
   have HFX:=Lib.hid hfx
   have HG4:=Lib.hid g4
   have HL4:=Lib.hid l4
   have HR1:=Lib.hid (right1_is g k n at_ tx A4 c4 kl _ ct nodes root wr (HE.out.below HB.out HE.out.six) ((HB.out.block _ (blk_lt HT.out)).trans HT.out) HG4.out (Kd.C_below HC.out HB.out) HL4.out hct HFX.out.2.1 hnl HFX.out.1 HFX.out.2.2)
   unfold nodeV at HR1
   clear hx hxx htk hmem hfx g4 l4
   cases hok : nodeOk nodes k n tx kl with
   | true =>
    rw [hok] at HR1
    have HOK:=Lib.hid hok
    clear hok
    go_wp2_with fail
    refine HR1.out.mono ?_
    rintro e_ W2 ⟨rfl,hb_⟩
    have HB2:=Lib.hid (zAd HB.out hb_)
    clear hb_
    go_wp2_with fail
    go_roundg (gk - 1)
    case measure => have:=HN.out; omega
    case rel => exact ⟨i + 1,by norm_cast,hlt,Lib.hid (by have:=HN.out; omega),Lib.hid (by rw [HTK.out,List.all_append,HA.out,List.all_cons]; exact (by rw [show okN nodes ⟨k,n,at_,tx,kl⟩ = true from HOK.out]; rfl)),HB2⟩
   | false =>
    rw [hok] at HR1
    have HOK:=Lib.hid hok
    clear hok
    go_wp2_with fail
    refine HR1.out.mono ?_
    rintro e_ W2 ⟨rfl,hb_⟩
    have HB2:=Lib.hid (zAd HB.out hb_)
    clear hb_
    go_wp2_with fail
    go_ret
    refine ⟨i,rfl,Lib.hid ?_,HB2.out⟩
    have h1 : nodes.all (okN nodes) = false:=by
     rw [List.all_eq_false]
     exact ⟨_,HMEM.out,by rw [show okN nodes ⟨k,n,at_,tx,kl⟩ = false from HOK.out]; simp⟩
    rw [h1]
    simp
  ·obtain rfl : i = nodes.length:=by omega
   have hall:=HA.out
   rw [List.take_length] at hall
   have HALL:=Lib.hid hall
   clear hall
   go_wp2_with fail
   go_ret
   exact ⟨-1,rfl,Lib.hid (by rw [HALL.out]; rfl),HB.out⟩
theorem any_is (g : Nat) (At : Option Addr) (ct : Nat) (nodes : List S66) (root : Int) (hF : Fit nodes) (w : World) (hE : Env w) (hT : w.heap[g]? = some (.cells #[.slice At nodes.length ct,.int .i64 root] 24 (0,0))) (hC : Kd.C k66 w At nodes.length nodes) (hct : nodes.length ≤ ct) :
  Calls Tryz.prog 57 #[.slice At nodes.length ct,.func (.func 58) #[] #[.pointer (some ⟨g,0,none⟩)]] w fun e w' => e = .returned (.bool (!(nodes.all (okN nodes)))) ∧ Below w.heap.size w w':=by
 have HX:=Lib.hid (find_is g At ct nodes root hF w hE hT hC hct)
 obtain ⟨r,hr⟩ : ∃ r,r = !(nodes.all (okN nodes)):=⟨_,rfl⟩
 rw [← hr]
 rw [← hr] at HX
 clear hF hE hT hC hr
 go_enter Tryz.func57,Tryz.ntmps57
 go_wp2_with fail
 refine HX.out.mono ?_
 rintro e_ w1 ⟨v,rfl,HV,hb_⟩
 have HB:=Lib.hid hb_
 clear hb_
 have t1 : decide (0 ≤ v) = r:=HV.out
 go_wp2_with fail
 go_ret
 exact ⟨rfl,HB.out⟩
def rightB (nodes : List S66) (root d : Int) : Bool:=!decide (d > 40) && (rd_T66 nodes root).f0 == 1 && nodes.all (okN nodes)
theorem right_no (At : Option Addr) (ct : Nat) (nodes : List S66) (root : Int) (w : World) (hC : Kd.C k66 w At nodes.length nodes) (hct : nodes.length ≤ ct) (hs : zAE.f nodes root = some false) :
  Calls Tryz.prog 32 #[.agg #[.slice At nodes.length ct,.int .i64 root]] w fun e w' => e = .returned (.bool false) ∧ Below w.heap.size w w':=by
 have hu24:=Tryz.underlying24
 have hu66:=Tryz.underlying66
 go_enter Tryz.func32,Tryz.ntmps32
 go_wp2_with fail
 refine (zAE.calls At ct nodes root false _ (Kd.C_alloc hC _) hct hs).mono ?_
 rintro e w1 ⟨rfl,hb1⟩
 have T1:=Aside0.mk (((Below.refl w.heap.size w).alloc (Nat.le_refl _) (.cells #[.slice At nodes.length ct,.int .i64 root] 24 (0,0))).trans (hb1.mono (by simp)))
 go_wp2_with fail
 go_ret
 exact ⟨rfl,T1.out⟩
theorem right_yes (At : Option Addr) (ct : Nat) (nodes : List S66) (root : Int) (w : World) (hC : Kd.C k66 w At nodes.length nodes) (hct : nodes.length ≤ ct) (hE : Env w) (hF : Fit nodes) (h0 : 0 ≤ root) (h1 : root < nodes.length) (kf : Nat) (d : Int) (hs : zAE.f nodes root = some true) (hd : zAp.f kf nodes root = some d) :
  Calls Tryz.prog 32 #[.agg #[.slice At nodes.length ct,.int .i64 root]] w fun e w' => e = .returned (.bool (rightB nodes root d)) ∧ Below w.heap.size w w':=by
 have HF:=Lib.hid hF
 have HE:=Lib.hid hE
 have HC:=Lib.hid hC
 have HS:=Lib.hid hs
 have HD:=Lib.hid hd
 have hu24:=Tryz.underlying24
 have hu66:=Tryz.underlying66
 clear hF hE hs hd hC
 obtain ⟨d1,hd1⟩ : ∃ b,b = decide (d > 40):=⟨_,rfl⟩
 have hd1' : decide (40 < d) = d1:=by rw [hd1]
 unfold rightB
 rw [← hd1]
 clear hd1
 obtain ⟨k0,hk0⟩ : ∃ k0,k0 = (rd_T66 nodes root).f0:=⟨_,rfl⟩
 obtain ⟨k1,hk1⟩ : ∃ b,b = (k0 == 1):=⟨_,rfl⟩
 rw [← hk0,← hk1]
 have HK1:=Lib.hid hk1
 have HK0:=Lib.hid hk0
 clear hk0 hk1
 go_enter Tryz.func32,Tryz.ntmps32
 go_wp2_with fail
 have hb0 : Below w.heap.size w (w.alloc (.cells #[.slice At nodes.length ct,.int .i64 root] 24)):=zAa (Below.refl _ _) _
 have hbox:=heap_alloc_new w (.cells #[.slice At nodes.length ct,.int .i64 root] 24)
 obtain ⟨W1,hW1⟩ : ∃ W_,W_ = w.alloc (.cells #[.slice At nodes.length ct,.int .i64 root] 24):=⟨_,rfl⟩
 rw [← hW1] at hb0 hbox ⊢
 have HB0:=Lib.hid hb0
 have HX0:=Lib.hid hbox
 clear hW1 hb0 hbox
 refine (zAE.calls At ct nodes root true _ (Kd.C_below HC.out HB0.out) hct HS.out).mono ?_
 rintro e_ W2 ⟨rfl,hb_⟩
 have HB2:=Lib.hid (zAd HB0.out hb_)
 have HX2 : Hid (W2.heap[w.heap.size]? = some (.cells #[.slice At nodes.length ct,.int .i64 root] 24 (0,0))):=Lib.hid ((hb_.block _ (blk_lt HX0.out)).trans HX0.out)
 clear hb_
 have c2_0:=bc_ HX2.out 0
 have c2_1:=bc_ HX2.out 1
 go_wp2_with fail
 refine (zAp.calls kf At ct nodes root d _ (Kd.C_below HC.out HB2.out) hct HD.out).mono ?_
 rintro e_ W3 ⟨rfl,hb_⟩
 clear c2_0 c2_1
 have HB3:=Lib.hid (zAd HB2.out hb_)
 have HX3 : Hid (W3.heap[w.heap.size]? = some (.cells #[.slice At nodes.length ct,.int .i64 root] 24 (0,0))):=Lib.hid ((hb_.block _ (blk_lt HX2.out)).trans HX2.out)
 clear hb_
 have c3_0:=bc_ HX3.out 0
 have c3_1:=bc_ HX3.out 1
 obtain ⟨ad,A4,c4,eA,z0,z1,z2,z3,z4,l4,g4⟩:=at_T66 (Kd.C_below HC.out HB3.out) root h0 h1
 rw [← HK0.out] at z0
 clear z1 z2 z3 z4 l4 g4
 cases eA
 cases d1 with
 | true =>
  go_wp2_with fail
  go_ret
  exact ⟨rfl,HB3.out⟩
 | false =>
  cases k1 with
  | false =>
   have hne : k0 ≠ 1:=by intro h; have hk1:=HK1.out; rw [h] at hk1; cases hk1
   go_wp2_with fail
   go_ret
   exact ⟨by simp,HB3.out⟩
  | true =>
   have heq : k0 = 1:=by have hk1:=HK1.out; by_cases h : k0 = 1; exact h; simp [h] at hk1
   clear HK1 HK0
   subst heq
   go_wp2_with fail
   refine (any_is w.heap.size _ ct nodes root HF.out W3 (HE.out.below HB3.out HE.out.six) HX3.out (Kd.C_below HC.out HB3.out) hct).mono ?_
   rintro e_ W4 ⟨rfl,hb_⟩
   have HB4:=Lib.hid (zAd HB3.out hb_)
   clear hb_
   go_wp2_with fail
   go_ret
   exact ⟨by simp,HB4.out⟩
end Go.Proofs.YtkhlfdcjgooogaaGreat.P
