import Derived.Test.YtpggidmpkhmijaaTtF
import Derived.Test.YtpggidmpkhmijaaPf23
set_option linter.unusedVariables false
set_option linter.unusedSimpArgs false
namespace Go.Proofs.Ytpggidmpkhmijaa.P
open Go.RowKit Go.Proofs.YtpggidmpkhmijaaW.PrintWords Go.Proofs.YtpggidmpkhmijaaW.PrintLast Go.Proofs.YtpggidmpkhmijaaW.PrintMore
attribute [local go_sem] zBa zAY max_two min_two zAR zAT zAZ zAX
def zBg.f (k : Nat) (l : List S24) (r : Int) : Option Bool:=(zAJ.f l r).bind fun t => if t = true then (zAI.f k l r).bind fun d => some (rightB l r d) else some false
def FitS (l : List S24) (r : Int) : Prop:=zAJ.f l r = some true → Fit l ∧ 0 ≤ r ∧ r < (l.length : Int)
theorem zBg.calls (k : Nat) (A : Option Addr) (c : Nat) (l : List S24) (root : Int) (r : Bool) (w : World) (hr : Kd.C k24 w A l.length l) (hc : l.length ≤ c) (h : zBg.f k l root = some r) (hE : Env w) (hF : FitS l root) :
  Calls Try.prog 19 #[.agg #[.slice A l.length c,.int .i64 root]] w fun e w' => e = .returned (.bool r) ∧ Below w.heap.size w w':=by
 unfold zBg.f at h
 cases hs : zAJ.f l root with
 | none => rw [hs] at h; cases h
 | some t =>
  rw [hs] at h
  cases t with
  | false =>
   have hr2 : r = false:=by simpa using h.symm
   subst hr2
   exact right_no A c l root w hr hc hs
  | true =>
   obtain ⟨h1,h2,h3⟩:=hF hs
   cases hd : zAI.f k l root with
   | none => rw [hd] at h; simp at h
   | some d =>
    rw [hd] at h
    have hr2 : rightB l root d = r:=by simpa using h
    rw [← hr2]
    exact right_yes A c l root w hr hc hE h1 h2 h3 k d hs hd
mutual
def zAl.j0 : Nat → Int → Bool → Bool → List (S24) → Int → Option (Bool)
 | 0,_,_,_,_,_ => none
 | k + 1,x1,x5,x17,x298000,x298001 => if x17 = true then (some x5) else ((zAJ.f x298000 x298001).bind fun t300 => ((zAq.f k x298000 x298001).bind fun t301 => (if (t300 == t301) = true then ((zBg.f k x298000 x298001).bind fun t302 => ((zAW.f k x298000 x298001).bind fun t303 => (if (t302 == t303) = true then ((zAI.f k x298000 x298001).bind fun t304 => ((zAv.f k x298000 x298001).bind fun t305 => (zAl.j1 k x1 (t304 == t305) x298000 x298001))) else (zAl.j1 k x1 false x298000 x298001)))) else (zAl.j1 k x1 false x298000 x298001))))
def zAl.j1 : Nat → Int → Bool → List (S24) → Int → Option (Bool)
 | 0,_,_,_,_ => none
 | k + 1,x1,x7,x298000,x298001 => if x7 = true then ((zAF.f k x298000 x298001).bind fun t306 => ((zAy.f k x298000 x298001).bind fun t309 => ((zAB.f k t306 t309).bind fun t312 => (if t312 = true then ((zAK.f k x298000 x298001 x1).bind fun bt313 => ((zAx.f k x298000 x298001 x1).bind fun bt317 => ((zAC.f k bt313.1 bt313.2 bt317.1 bt317.2).bind fun t321 => (some t321)))) else (some false))))) else (some false)
end
def zAl.T5 : Bool × List (List Nat × List Nat):=(true,[([],[]),([0],[0]),([],[]),([2,1],[2]),([1,3],[1,3]),([4,3],[4]),([5],[5]),([6,5,5],[5,6]),([5],[5]),([8,7,5],[5,8]),([7,9,5],[5,7,9]),([5,10],[5,10]),([11,9],[11]),([12],[12]),([13,12,12],[12,13]),([12],[12]),([15,14,12],[12,15]),([14,16,12],[12,14,16]),([12,17],[12,17]),([18,16,0,1,2,3,4,5,6,7,8,9,10,11,12,13,14,15,16,17,18],[18])])
def zAl.B5 : List Nat:=[0,1,0,7,15,31,63,127,63,511,1023,2047,4095,8191,16383,8191,65535,131071,262143,524287]
theorem zAl.tab5 : rtab .any (opsOf Try.f7 5) = zAl.T5:=by kernel_rfl
theorem zAl.bits5 : waitsOk zAl.T5.2 zAl.B5 = true:=by kernel_rfl
def zAl.T6 : Bool × List (List Nat × List Nat):=(true,[([],[]),([0],[0]),([1],[1]),([2,1,1],[1,2]),([1],[1]),([4,3,1],[1,4]),([3,5,5,1],[1,3,5]),([1,6],[1,6]),([7,6],[7]),([8],[8]),([8],[8]),([9,10,8,8],[8,9,10]),([8],[8]),([8],[8]),([12,13,11,8],[8,12,13]),([11,14,14,8],[8,11,14]),([8,15],[8,15]),([16,15,0,1,2,3,4,5,6,7,8,9,10,11,12,13,14,15,16],[16])])
def zAl.B6 : List Nat:=[0,1,3,7,3,31,63,127,255,511,511,2047,511,511,16383,32767,65535,131071]
theorem zAl.tab6 : rtab .any (opsOf Try.f7 6) = zAl.T6:=by kernel_rfl
theorem zAl.bits6 : waitsOk zAl.T6.2 zAl.B6 = true:=by kernel_rfl
set_option maxRecDepth 100000 in
set_option maxHeartbeats 4000000 in
theorem TreeTells_out (A : Option Addr) (c : Nat) (l : List S24) (root p : Int) (k : Nat) (w : World) (hr : Kd.C k24 w A l.length l) (hc : l.length ≤ c) (hsm : zAD.f k [⟨l,root⟩] = some false) :
  Calls Try.prog 7 #[.agg #[.slice A l.length c,.int .i64 root],.int .i64 p] w fun e w' => e = .returned (.bool true) ∧ Below w.heap.size w w':=by
 have T0:=Aside0.mk (TW.new (c:=c) root hr)
 have HC:=Aside0.mk hc
 have HSM:=Lib.hid hsm
 clear hr hc hsm
 have hu30:=Try.underlying30
 have hu24:=Try.underlying24
 go_enter Try.func7,Try.ntmps7
 go_wp2_with fail
 refine (shown_calls _).mono ?_
 rintro e w1 ⟨rfl,hb1⟩
 have T1:=Aside0.mk (T0.out.step hb1)
 have z1:=T1.out.z
 have t10:=T1.out.t0
 have t11:=T1.out.t1
 clear hb1
 go_wp2_with fail
 refine (zAD.calls k _ 1 [⟨l,root⟩] false _ ?hn1 (Nat.le_refl _) HSM.out).mono ?_
 case hn1 => exact nodeC w1 A c l root T1.out.C HC.out
 rintro e w2 ⟨rfl,⟨n2,rfl⟩⟩
 have T2:=Aside0.mk ((T1.out.alloc (.cells #[.slice A l.length c,.int .i64 root] 30)).drewN n2)
 go_wp2_with fail
 go_ret
 exact ⟨rfl,T2.out.below⟩
set_option maxRecDepth 100000 in
set_option maxHeartbeats 16000000 in
theorem TreeTells_in (k ks : Nat) (A0_0 : Option Addr) (c0_0 : Nat) (l0_0 : List (S24)) (a0_1 : Int) (a1 : Int) (r : Bool) (w : World) (hE : Env w) (hFS : FitS l0_0 a0_1) (hr0_0 : Kd.C k24 w A0_0 l0_0.length l0_0) (hc0_0 : l0_0.length ≤ c0_0) (hsm : zAD.f ks [⟨l0_0,a0_1⟩] = some true) (h : zAl.j0 k a1 true false l0_0 a0_1 = some r) :
  Calls Try.prog 7 #[.agg #[.slice A0_0 l0_0.length c0_0,.int .i64 a0_1],.int .i64 a1] w fun e w' => e = .returned (.bool r) ∧ Below w.heap.size w w':=by
 have hu30:=Try.underlying30
 have HR0_0:=Aside0.mk hr0_0
 have HC0_0:=Aside0.mk hc0_0
 have T0:=Aside0.mk (TW.new (c:=c0_0) a0_1 hr0_0)
 have HSM:=Lib.hid hsm
 have HE:=Lib.hid hE
 have HFS:=Lib.hid hFS
 have HH:=Lib.hid h
 have BX0:=Lib.hid (heap_alloc_new w (.cells #[.slice A0_0 l0_0.length c0_0,.int .i64 a0_1] 30))
 clear hr0_0 hc0_0 hsm hE hFS h
 go_enter Try.func7,Try.ntmps7
 go_wp2_with fail
 refine (shown_calls _).mono ?_
 rintro e w1 ⟨rfl,hb1⟩
 have T1:=Aside0.mk (T0.out.step hb1)
 have BX1:=Lib.hid ((hb1.block _ (blk_lt BX0.out)).trans BX0.out)
 have z1:=T1.out.z
 have t10:=T1.out.t0
 have t11:=T1.out.t1
 clear hb1 BX0
 go_wp2_with fail
 refine (zAD.calls ks _ 1 [⟨l0_0,a0_1⟩] true _ ?hn1 (Nat.le_refl _) HSM.out).mono ?_
 case hn1 => exact nodeC w1 A0_0 c0_0 l0_0 a0_1 T1.out.C HC0_0.out
 rintro e w2 ⟨rfl,⟨n2,rfl⟩⟩
 have hB_ : Below w.heap.size w ((w1.alloc (.cells #[.slice A0_0 l0_0.length c0_0,.int .i64 a0_1] 30)).drewN n2):=((T1.out.alloc (.cells #[.slice A0_0 l0_0.length c0_0,.int .i64 a0_1] 30)).drewN n2).below
 have hX_ : ((w1.alloc (.cells #[.slice A0_0 l0_0.length c0_0,.int .i64 a0_1] 30)).drewN n2).heap[w.heap.size]? = some (.cells #[(.slice A0_0 l0_0.length c0_0),.int .i64 a0_1] 30 (0,0)):=zAb (zAa BX1.out _) n2
 obtain ⟨wc,hW2⟩ : ∃ W_,W_ = (w1.alloc (.cells #[.slice A0_0 l0_0.length c0_0,.int .i64 a0_1] 30)).drewN n2:=⟨_,rfl⟩
 rw [← hW2] at hB_ hX_ ⊢
 have HB:=Aside0.mk hB_
 have BK297:=Aside0.mk hX_
 have GE297:=Aside0.mk (Nat.le_refl w.heap.size)
 have GW297:=Aside0.mk (Nat.le_refl w.heap.size)
 clear hB_ hX_ hW2 T0 T1 BX1 z1 t10 t11 HSM
 cases k with
 | zero => exact absurd HH.out (by simp [zAl.j0])
 | succ kj4 =>
   have HJ4:=Aside0.mk (Nat.le_refl (kj4 + 1))
   have H:=HH.out
   clear HH
   simp only [zAl.j0] at H
   ·skip
    have H1 : ((zAJ.f l0_0 a0_1).bind fun t300 => ((zAq.f kj4 l0_0 a0_1).bind fun t301 => (if (t300 == t301) = true then ((zBg.f kj4 l0_0 a0_1).bind fun t302 => ((zAW.f kj4 l0_0 a0_1).bind fun t303 => (if (t302 == t303) = true then ((zAI.f kj4 l0_0 a0_1).bind fun t304 => ((zAv.f kj4 l0_0 a0_1).bind fun t305 => (zAl.j1 kj4 a1 (t304 == t305) l0_0 a0_1))) else (zAl.j1 kj4 a1 false l0_0 a0_1)))) else (zAl.j1 kj4 a1 false l0_0 a0_1)))) = some r:=by rw [if_neg (show ¬ (false = true) by decide)] at H; exact H
    clear H
    have H:=H1
    clear H1
    have HC11:=Aside0.mk H
    clear H
    go_upto_region 5 with (fail)
    go_cut [7] (fun v7 wc => ∃ (kq : Nat) (x7_10 : Bool),v7 = .bool x7_10 ∧ Aside0 (zAl.j1 kq a1 x7_10 l0_0 a0_1 = some r) ∧ Aside0 (kq ≤ kj4) ∧ Aside0 (wc.heap[w.heap.size]? = some (.cells #[(.slice A0_0 l0_0.length c0_0),.int .i64 a0_1] 30 (0,0))) ∧ Aside0 (Below w.heap.size w wc))
    case first =>
     have H:=HC11.out
     clear HC11
     replace H:=Option.bind_eq_some_iff.mp H
     obtain ⟨t300,A120,H⟩:=H
     replace H : ((zAq.f kj4 l0_0 a0_1).bind fun t301 => (if (t300 == t301) = true then ((zBg.f kj4 l0_0 a0_1).bind fun t302 => ((zAW.f kj4 l0_0 a0_1).bind fun t303 => (if (t302 == t303) = true then ((zAI.f kj4 l0_0 a0_1).bind fun t304 => ((zAv.f kj4 l0_0 a0_1).bind fun t305 => (zAl.j1 kj4 a1 (t304 == t305) l0_0 a0_1))) else (zAl.j1 kj4 a1 false l0_0 a0_1)))) else (zAl.j1 kj4 a1 false l0_0 a0_1))) = some r:=H
     have A12:=Aside0.mk A120
     clear A120
     replace H:=Option.bind_eq_some_iff.mp H
     obtain ⟨t301,A130,H⟩:=H
     replace H : (if (t300 == t301) = true then ((zBg.f kj4 l0_0 a0_1).bind fun t302 => ((zAW.f kj4 l0_0 a0_1).bind fun t303 => (if (t302 == t303) = true then ((zAI.f kj4 l0_0 a0_1).bind fun t304 => ((zAv.f kj4 l0_0 a0_1).bind fun t305 => (zAl.j1 kj4 a1 (t304 == t305) l0_0 a0_1))) else (zAl.j1 kj4 a1 false l0_0 a0_1)))) else (zAl.j1 kj4 a1 false l0_0 a0_1)) = some r:=H
     have A13:=Aside0.mk A130
     clear A130
     by_cases c14 : (t300 == t301) = true
     ·rw [if_pos c14] at H
      have c14b0 : (t300 == t301) = true:=c14
      (try (have c14b1 : decide (t300 = t301) = true:=by simpa using c14))
      (try (have c14b2 : (t300 == t301) = true:=by simpa using c14))
      clear c14
      (first | rw [c14b0] | (simp only [i64_w,i32_w]; rw [c14b0]) | skip)
      replace H:=Option.bind_eq_some_iff.mp H
      obtain ⟨t302,A150,H⟩:=H
      replace H : ((zAW.f kj4 l0_0 a0_1).bind fun t303 => (if (t302 == t303) = true then ((zAI.f kj4 l0_0 a0_1).bind fun t304 => ((zAv.f kj4 l0_0 a0_1).bind fun t305 => (zAl.j1 kj4 a1 (t304 == t305) l0_0 a0_1))) else (zAl.j1 kj4 a1 false l0_0 a0_1))) = some r:=H
      have A15:=Aside0.mk A150
      clear A150
      replace H:=Option.bind_eq_some_iff.mp H
      obtain ⟨t303,A160,H⟩:=H
      replace H : (if (t302 == t303) = true then ((zAI.f kj4 l0_0 a0_1).bind fun t304 => ((zAv.f kj4 l0_0 a0_1).bind fun t305 => (zAl.j1 kj4 a1 (t304 == t305) l0_0 a0_1))) else (zAl.j1 kj4 a1 false l0_0 a0_1)) = some r:=H
      have A16:=Aside0.mk A160
      clear A160
      by_cases c17 : (t302 == t303) = true
      ·rw [if_pos c17] at H
       have c17b0 : (t302 == t303) = true:=c17
       (try (have c17b1 : decide (t302 = t303) = true:=by simpa using c17))
       (try (have c17b2 : (t302 == t303) = true:=by simpa using c17))
       clear c17
       replace H:=Option.bind_eq_some_iff.mp H
       obtain ⟨t304,A180,H⟩:=H
       replace H : ((zAv.f kj4 l0_0 a0_1).bind fun t305 => (zAl.j1 kj4 a1 (t304 == t305) l0_0 a0_1)) = some r:=H
       have A18:=Aside0.mk A180
       clear A180
       replace H:=Option.bind_eq_some_iff.mp H
       obtain ⟨t305,A190,H⟩:=H
       replace H : (zAl.j1 kj4 a1 (t304 == t305) l0_0 a0_1) = some r:=H
       have A19:=Aside0.mk A190
       clear A190
       have H':=Aside0.mk H
       clear H
       try go_wp2
       have n0_:=Aside0.mk (zAd BK297.out)
       have n1_:=Aside0.mk (zAi HB.out)
       clear BK297
       clear HB
       have BK297:=n0_
       have HB:=n1_
       clear n0_ n1_
       refine start_ (n:=20) (S:=fun w' => w'.cell? ⟨w.heap.size,0,none⟩ = some (.slice A0_0 l0_0.length c0_0) ∧ w'.cell? ⟨w.heap.size,1,none⟩ = some (.int .i64 a0_1)) (ds:=[]) #[false,false,false,false,false,false,false,false,false,false,false,false,false,false,false,false,false,false,false,false] (by kernel_rfl) rfl rfl ⟨(zAf BK297.out 0).trans rfl,(zAf BK297.out 1).trans rfl⟩ (fun hHeld => ?_); refine zBs zAl.tab5 zAl.bits5 (fun HT_ HW_ => ?_)
       generalize wc.drew = w20 at BK297 HB hHeld ⊢
       refine take_ (i:=0) (N:=some 19) (v:=?_) (a':=?_) #[true,false,false,false,false,false,false,false,false,false,false,false,false,false,false,false,false,false,false,false] rfl rfl (zBb HT_.out HW_.out (by kernel_rfl)) (fun _ _ _ h => h) (Or.inl ⟨by rfl,?_⟩) hHeld ?_ ?_
       rotate_left
       ·rintro w' ⟨s0,s1⟩
        go_simp
        with_reducible rfl
       rotate_left
       ·simp only [Act.put,List.setIfInBounds_toArray,List.set_cons_zero,List.set_cons_succ,i64_w,i32_w]
        rfl
       refine take_ (i:=2) (N:=some 21) (v:=?_) (a':=?_) #[true,false,true,false,false,false,false,false,false,false,false,false,false,false,false,false,false,false,false,false] rfl rfl (zBb HT_.out HW_.out (by kernel_rfl)) (fun _ _ _ h => h) (Or.inl ⟨by rfl,?_⟩) hHeld ?_ ?_
       rotate_left
       ·rintro w' ⟨s0,s1⟩
        go_simp
        with_reducible rfl
       rotate_left
       ·simp only [Act.put,List.setIfInBounds_toArray,List.set_cons_zero,List.set_cons_succ,i64_w,i32_w]
        rfl
       refine one_ (i:=1) (N:=some 20) #[true,true,true,false,false,false,false,false,false,false,false,false,false,false,false,false,false,false,false,false] rfl rfl (one_of HT_.out (by kernel_rfl)) (by decide) (fun K hK => ?_)
       refine goes_ Try.func15 (by kernel_rfl) rfl #[.agg #[.slice A0_0 l0_0.length c0_0,.int .i64 a0_1]] (by rfl) rfl rfl (by (try simp only [List.map_toArray,List.map_cons,List.map_nil]); first | done | rfl | (simp only [List.length_drop,List.length_take]; rfl)) ?_
       with_reducible refine (zAJ.calls _ _ l0_0 a0_1 t300 _ ?side1 ?side2 A12.out).mono ?_
       (case side1 => repeat (first | exact (Kd.C_below HR0_0.out HB.out) | (with_reducible refine Kd.C_alloc ?_ _) | (with_reducible refine Kd.C_drewN ?_ _) | (with_reducible refine Kd.C_drew ?_)))
       (case side2 => exact HC0_0.out)
       rintro e w21 ⟨rfl,hb⟩
       refine ⟨_,rfl,?_⟩
       have n0_:=Aside0.mk (zAs (g:=w.heap.size) (o:=.cells #[.slice A0_0 l0_0.length c0_0,.int .i64 a0_1] 30 (0,0)) (by (with_reducible repeat (first | apply zAb | apply zAd | apply zAa)); exact BK297.out) hb)
       have n1_:=Aside0.mk (zAm (by repeat (first | (with_reducible first | exact HB.out | apply zAg | apply zAc | apply zAi | refine zAh ?_ GE297.out) | exact HB.out)) hb)
       clear BK297
       clear HB
       have BK297:=n0_
       have HB:=n1_
       clear n0_ n1_
       (try clear hb)
       (try clear hb2)
       (try clear hk)
       (try clear hi)
       refine hK.out _ _ ⟨(zAf BK297.out 0).trans rfl,(zAf BK297.out 1).trans rfl⟩ (fun hHeld => ?_)
       clear hK K
       refine norm_ (a':=?_) ?_ ?_
       rotate_left
       ·show Act.put _ (some 20) _ = _
        simp only [Act.put,List.setIfInBounds_toArray,List.set_cons_zero,List.set_cons_succ,i64_w,i32_w]
        rfl
       refine one_ (i:=3) (N:=some 22) #[true,true,true,true,false,false,false,false,false,false,false,false,false,false,false,false,false,false,false,false] rfl rfl (one_of HT_.out (by kernel_rfl)) (by decide) (fun K hK => ?_)
       refine goes_ Try.func20 (by kernel_rfl) rfl #[.agg #[.slice A0_0 l0_0.length c0_0,.int .i64 a0_1]] (by rfl) rfl rfl (by (try simp only [List.map_toArray,List.map_cons,List.map_nil]); first | done | rfl | (simp only [List.length_drop,List.length_take]; rfl)) ?_
       with_reducible refine (zAq.calls kj4 _ _ l0_0 a0_1 t301 _ ?side1 ?side2 A13.out).mono ?_
       (case side1 => repeat (first | exact (Kd.C_below HR0_0.out HB.out) | (with_reducible refine Kd.C_alloc ?_ _) | (with_reducible refine Kd.C_drewN ?_ _) | (with_reducible refine Kd.C_drew ?_)))
       (case side2 => exact HC0_0.out)
       rintro e w22 ⟨rfl,hb⟩
       refine ⟨_,rfl,?_⟩
       have n0_:=Aside0.mk (zAs (g:=w.heap.size) (o:=.cells #[.slice A0_0 l0_0.length c0_0,.int .i64 a0_1] 30 (0,0)) (by (with_reducible repeat (first | apply zAb | apply zAd | apply zAa)); exact BK297.out) hb)
       have n1_:=Aside0.mk (zAm (by repeat (first | (with_reducible first | exact HB.out | apply zAg | apply zAc | apply zAi | refine zAh ?_ GE297.out) | exact HB.out)) hb)
       clear BK297
       clear HB
       have BK297:=n0_
       have HB:=n1_
       clear n0_ n1_
       (try clear hb)
       (try clear hb2)
       (try clear hk)
       (try clear hi)
       refine hK.out _ _ ⟨(zAf BK297.out 0).trans rfl,(zAf BK297.out 1).trans rfl⟩ (fun hHeld => ?_)
       clear hK K
       refine norm_ (a':=?_) ?_ ?_
       rotate_left
       ·show Act.put _ (some 22) _ = _
        simp only [Act.put,List.setIfInBounds_toArray,List.set_cons_zero,List.set_cons_succ,i64_w,i32_w]
        rfl
       refine pure_ (i:=4) (N:=some 23) (v:=?_) (a':=?_) #[true,true,true,true,true,false,false,false,false,false,false,false,false,false,false,false,false,false,false,false] rfl rfl (any_of HT_.out (by kernel_rfl)) (fun _ _ _ h => h) (Or.inl ⟨by rfl,?_⟩) ?_ ?_
       rotate_left
       ·intro w'
        go_simp
        with_reducible rfl
       rotate_left
       ·simp only [Act.put,List.setIfInBounds_toArray,List.set_cons_zero,List.set_cons_succ,i64_w,i32_w]
        rfl
       refine pure_ (i:=5) (N:=some 24) (v:=?_) (a':=?_) #[true,true,true,true,true,true,false,false,false,false,false,false,false,false,false,false,false,false,false,false] rfl rfl (any_of HT_.out (by kernel_rfl)) (fun _ _ _ h => h) (Or.inl ⟨by rfl,?_⟩) ?_ ?_
       rotate_left
       ·intro w'
        go_simp
        with_reducible rfl
       rotate_left
       ·simp only [Act.put,List.setIfInBounds_toArray,List.set_cons_zero,List.set_cons_succ,i64_w,i32_w]
        rfl
       refine take_ (i:=6) (N:=some 25) (v:=?_) (a':=?_) #[true,true,true,true,true,true,true,false,false,false,false,false,false,false,false,false,false,false,false,false] rfl rfl (zBb HT_.out HW_.out (by kernel_rfl)) (fun _ _ _ h => h) (Or.inl ⟨by rfl,?_⟩) hHeld ?_ ?_
       rotate_left
       ·rintro w' ⟨s0,s1⟩
        go_simp
        with_reducible rfl
       rotate_left
       ·simp only [Act.put,List.setIfInBounds_toArray,List.set_cons_zero,List.set_cons_succ,i64_w,i32_w]
        rfl
       refine take_ (i:=8) (N:=some 27) (v:=?_) (a':=?_) #[true,true,true,true,true,true,true,false,true,false,false,false,false,false,false,false,false,false,false,false] rfl rfl (zBb HT_.out HW_.out (by kernel_rfl)) (fun _ _ _ h => h) (Or.inl ⟨by rfl,?_⟩) hHeld ?_ ?_
       rotate_left
       ·rintro w' ⟨s0,s1⟩
        go_simp
        with_reducible rfl
       rotate_left
       ·simp only [Act.put,List.setIfInBounds_toArray,List.set_cons_zero,List.set_cons_succ,i64_w,i32_w]
        rfl
       refine one_ (i:=7) (N:=some 26) #[true,true,true,true,true,true,true,true,true,false,false,false,false,false,false,false,false,false,false,false] rfl rfl (one_of HT_.out (by kernel_rfl)) (by decide) (fun K hK => ?_)
       refine goes_ Try.func19 (by kernel_rfl) rfl #[.agg #[.slice A0_0 l0_0.length c0_0,.int .i64 a0_1]] (by rfl) rfl rfl (by (try simp only [List.map_toArray,List.map_cons,List.map_nil]); first | done | rfl | (simp only [List.length_drop,List.length_take]; rfl)) ?_
       with_reducible refine (zBg.calls kj4 _ _ l0_0 a0_1 t302 _ ?side1 ?side2 A15.out (HE.out.below HB.out HE.out.six) HFS.out).mono ?_
       (case side1 => repeat (first | exact (Kd.C_below HR0_0.out HB.out) | (with_reducible refine Kd.C_alloc ?_ _) | (with_reducible refine Kd.C_drewN ?_ _) | (with_reducible refine Kd.C_drew ?_)))
       (case side2 => exact HC0_0.out)
       rintro e w23 ⟨rfl,hb⟩
       refine ⟨_,rfl,?_⟩
       have n0_:=Aside0.mk (zAs (g:=w.heap.size) (o:=.cells #[.slice A0_0 l0_0.length c0_0,.int .i64 a0_1] 30 (0,0)) (by (with_reducible repeat (first | apply zAb | apply zAd | apply zAa)); exact BK297.out) hb)
       have n1_:=Aside0.mk (zAm (by repeat (first | (with_reducible first | exact HB.out | apply zAg | apply zAc | apply zAi | refine zAh ?_ GE297.out) | exact HB.out)) hb)
       clear BK297
       clear HB
       have BK297:=n0_
       have HB:=n1_
       clear n0_ n1_
       (try clear hb)
       (try clear hb2)
       (try clear hk)
       (try clear hi)
       refine hK.out _ _ ⟨(zAf BK297.out 0).trans rfl,(zAf BK297.out 1).trans rfl⟩ (fun hHeld => ?_)
       clear hK K
       refine norm_ (a':=?_) ?_ ?_
       rotate_left
       ·show Act.put _ (some 26) _ = _
        simp only [Act.put,List.setIfInBounds_toArray,List.set_cons_zero,List.set_cons_succ,i64_w,i32_w]
        rfl
       refine one_ (i:=9) (N:=some 28) #[true,true,true,true,true,true,true,true,true,true,false,false,false,false,false,false,false,false,false,false] rfl rfl (one_of HT_.out (by kernel_rfl)) (by decide) (fun K hK => ?_)
       refine goes_ Try.func21 (by kernel_rfl) rfl #[.agg #[.slice A0_0 l0_0.length c0_0,.int .i64 a0_1]] (by rfl) rfl rfl (by (try simp only [List.map_toArray,List.map_cons,List.map_nil]); first | done | rfl | (simp only [List.length_drop,List.length_take]; rfl)) ?_
       with_reducible refine (zAW.calls kj4 _ _ l0_0 a0_1 t303 _ ?side1 ?side2 A16.out).mono ?_
       (case side1 => repeat (first | exact (Kd.C_below HR0_0.out HB.out) | (with_reducible refine Kd.C_alloc ?_ _) | (with_reducible refine Kd.C_drewN ?_ _) | (with_reducible refine Kd.C_drew ?_)))
       (case side2 => exact HC0_0.out)
       rintro e w24 ⟨rfl,hb⟩
       refine ⟨_,rfl,?_⟩
       have n0_:=Aside0.mk (zAs (g:=w.heap.size) (o:=.cells #[.slice A0_0 l0_0.length c0_0,.int .i64 a0_1] 30 (0,0)) (by (with_reducible repeat (first | apply zAb | apply zAd | apply zAa)); exact BK297.out) hb)
       have n1_:=Aside0.mk (zAm (by repeat (first | (with_reducible first | exact HB.out | apply zAg | apply zAc | apply zAi | refine zAh ?_ GE297.out) | exact HB.out)) hb)
       clear BK297
       clear HB
       have BK297:=n0_
       have HB:=n1_
       clear n0_ n1_
       (try clear hb)
       (try clear hb2)
       (try clear hk)
       (try clear hi)
       refine hK.out _ _ ⟨(zAf BK297.out 0).trans rfl,(zAf BK297.out 1).trans rfl⟩ (fun hHeld => ?_)
       clear hK K
       refine norm_ (a':=?_) ?_ ?_
       rotate_left
       ·show Act.put _ (some 28) _ = _
        simp only [Act.put,List.setIfInBounds_toArray,List.set_cons_zero,List.set_cons_succ,i64_w,i32_w]
        rfl
       refine pure_ (i:=10) (N:=some 29) (v:=?_) (a':=?_) #[true,true,true,true,true,true,true,true,true,true,true,false,false,false,false,false,false,false,false,false] rfl rfl (any_of HT_.out (by kernel_rfl)) (fun _ _ _ h => h) (Or.inl ⟨by rfl,?_⟩) ?_ ?_
       rotate_left
       ·intro w'
        go_simp
        with_reducible rfl
       rotate_left
       ·simp only [Act.put,List.setIfInBounds_toArray,List.set_cons_zero,List.set_cons_succ,i64_w,i32_w]
        rfl
       refine pure_ (i:=11) (N:=some 30) (v:=?_) (a':=?_) #[true,true,true,true,true,true,true,true,true,true,true,true,false,false,false,false,false,false,false,false] rfl rfl (any_of HT_.out (by kernel_rfl)) (fun _ _ _ h => h) (Or.inl ⟨by rfl,?_⟩) ?_ ?_
       rotate_left
       ·intro w'
        go_simp
        with_reducible rfl
       rotate_left
       ·simp only [Act.put,List.setIfInBounds_toArray,List.set_cons_zero,List.set_cons_succ,i64_w,i32_w]
        rfl
       refine pure_ (i:=12) (N:=some 31) (v:=?_) (a':=?_) #[true,true,true,true,true,true,true,true,true,true,true,true,true,false,false,false,false,false,false,false] rfl rfl (any_of HT_.out (by kernel_rfl)) (fun _ _ _ h => h) (Or.inl ⟨by rfl,?_⟩) ?_ ?_
       rotate_left
       ·intro w'
        go_simp
        with_reducible rfl
       rotate_left
       ·simp only [Act.put,List.setIfInBounds_toArray,List.set_cons_zero,List.set_cons_succ,i64_w,i32_w]
        rfl
       refine take_ (i:=13) (N:=some 32) (v:=?_) (a':=?_) #[true,true,true,true,true,true,true,true,true,true,true,true,true,true,false,false,false,false,false,false] rfl rfl (zBb HT_.out HW_.out (by kernel_rfl)) (fun _ _ _ h => h) (Or.inl ⟨by rfl,?_⟩) hHeld ?_ ?_
       rotate_left
       ·rintro w' ⟨s0,s1⟩
        go_simp
        with_reducible rfl
       rotate_left
       ·simp only [Act.put,List.setIfInBounds_toArray,List.set_cons_zero,List.set_cons_succ,i64_w,i32_w]
        rfl
       refine take_ (i:=15) (N:=some 34) (v:=?_) (a':=?_) #[true,true,true,true,true,true,true,true,true,true,true,true,true,true,false,true,false,false,false,false] rfl rfl (zBb HT_.out HW_.out (by kernel_rfl)) (fun _ _ _ h => h) (Or.inl ⟨by rfl,?_⟩) hHeld ?_ ?_
       rotate_left
       ·rintro w' ⟨s0,s1⟩
        go_simp
        with_reducible rfl
       rotate_left
       ·simp only [Act.put,List.setIfInBounds_toArray,List.set_cons_zero,List.set_cons_succ,i64_w,i32_w]
        rfl
       refine one_ (i:=14) (N:=some 33) #[true,true,true,true,true,true,true,true,true,true,true,true,true,true,true,true,false,false,false,false] rfl rfl (one_of HT_.out (by kernel_rfl)) (by decide) (fun K hK => ?_)
       refine goes_ Try.func17 (by kernel_rfl) rfl #[.agg #[.slice A0_0 l0_0.length c0_0,.int .i64 a0_1]] (by rfl) rfl rfl (by (try simp only [List.map_toArray,List.map_cons,List.map_nil]); first | done | rfl | (simp only [List.length_drop,List.length_take]; rfl)) ?_
       with_reducible refine (zAI.calls kj4 _ _ l0_0 a0_1 t304 _ ?side1 ?side2 A18.out).mono ?_
       (case side1 => repeat (first | exact (Kd.C_below HR0_0.out HB.out) | (with_reducible refine Kd.C_alloc ?_ _) | (with_reducible refine Kd.C_drewN ?_ _) | (with_reducible refine Kd.C_drew ?_)))
       (case side2 => exact HC0_0.out)
       rintro e w25 ⟨rfl,hb⟩
       refine ⟨_,rfl,?_⟩
       have n0_:=Aside0.mk (zAs (g:=w.heap.size) (o:=.cells #[.slice A0_0 l0_0.length c0_0,.int .i64 a0_1] 30 (0,0)) (by (with_reducible repeat (first | apply zAb | apply zAd | apply zAa)); exact BK297.out) hb)
       have n1_:=Aside0.mk (zAm (by repeat (first | (with_reducible first | exact HB.out | apply zAg | apply zAc | apply zAi | refine zAh ?_ GE297.out) | exact HB.out)) hb)
       clear BK297
       clear HB
       have BK297:=n0_
       have HB:=n1_
       clear n0_ n1_
       (try clear hb)
       (try clear hb2)
       (try clear hk)
       (try clear hi)
       refine hK.out _ _ ⟨(zAf BK297.out 0).trans rfl,(zAf BK297.out 1).trans rfl⟩ (fun hHeld => ?_)
       clear hK K
       refine norm_ (a':=?_) ?_ ?_
       rotate_left
       ·show Act.put _ (some 33) _ = _
        simp only [Act.put,List.setIfInBounds_toArray,List.set_cons_zero,List.set_cons_succ,i64_w,i32_w]
        rfl
       refine one_ (i:=16) (N:=some 35) #[true,true,true,true,true,true,true,true,true,true,true,true,true,true,true,true,true,false,false,false] rfl rfl (one_of HT_.out (by kernel_rfl)) (by decide) (fun K hK => ?_)
       refine goes_ Try.func22 (by kernel_rfl) rfl #[.agg #[.slice A0_0 l0_0.length c0_0,.int .i64 a0_1]] (by rfl) rfl rfl (by (try simp only [List.map_toArray,List.map_cons,List.map_nil]); first | done | rfl | (simp only [List.length_drop,List.length_take]; rfl)) ?_
       with_reducible refine (zAv.calls kj4 _ _ l0_0 a0_1 t305 _ ?side1 ?side2 A19.out).mono ?_
       (case side1 => repeat (first | exact (Kd.C_below HR0_0.out HB.out) | (with_reducible refine Kd.C_alloc ?_ _) | (with_reducible refine Kd.C_drewN ?_ _) | (with_reducible refine Kd.C_drew ?_)))
       (case side2 => exact HC0_0.out)
       rintro e w26 ⟨rfl,hb⟩
       refine ⟨_,rfl,?_⟩
       have n0_:=Aside0.mk (zAs (g:=w.heap.size) (o:=.cells #[.slice A0_0 l0_0.length c0_0,.int .i64 a0_1] 30 (0,0)) (by (with_reducible repeat (first | apply zAb | apply zAd | apply zAa)); exact BK297.out) hb)
       have n1_:=Aside0.mk (zAm (by repeat (first | (with_reducible first | exact HB.out | apply zAg | apply zAc | apply zAi | refine zAh ?_ GE297.out) | exact HB.out)) hb)
       clear BK297
       clear HB
       have BK297:=n0_
       have HB:=n1_
       clear n0_ n1_
       (try clear hb)
       (try clear hb2)
       (try clear hk)
       (try clear hi)
       refine hK.out _ _ ⟨(zAf BK297.out 0).trans rfl,(zAf BK297.out 1).trans rfl⟩ (fun hHeld => ?_)
       clear hK K
       refine norm_ (a':=?_) ?_ ?_
       rotate_left
       ·show Act.put _ (some 35) _ = _
        simp only [Act.put,List.setIfInBounds_toArray,List.set_cons_zero,List.set_cons_succ,i64_w,i32_w]
        rfl
       refine pure_ (i:=17) (N:=some 36) (v:=?_) (a':=?_) #[true,true,true,true,true,true,true,true,true,true,true,true,true,true,true,true,true,true,false,false] rfl rfl (any_of HT_.out (by kernel_rfl)) (fun _ _ _ h => h) (Or.inl ⟨by rfl,?_⟩) ?_ ?_
       rotate_left
       ·intro w'
        go_simp
        with_reducible rfl
       rotate_left
       ·simp only [Act.put,List.setIfInBounds_toArray,List.set_cons_zero,List.set_cons_succ,i64_w,i32_w]
        rfl
       refine pure_ (i:=18) (N:=some 37) (v:=?_) (a':=?_) #[true,true,true,true,true,true,true,true,true,true,true,true,true,true,true,true,true,true,true,false] rfl rfl (any_of HT_.out (by kernel_rfl)) (fun _ _ _ h => h) (Or.inl ⟨by rfl,?_⟩) ?_ ?_
       rotate_left
       ·intro w'
        go_simp
        with_reducible rfl
       rotate_left
       ·simp only [Act.put,List.setIfInBounds_toArray,List.set_cons_zero,List.set_cons_succ,i64_w,i32_w]
        rfl
       refine pure_ (i:=19) (N:=some 7) (v:=?_) (a':=?_) #[true,true,true,true,true,true,true,true,true,true,true,true,true,true,true,true,true,true,true,true] rfl rfl (any_of HT_.out (by kernel_rfl)) (fun _ _ _ h => h) (Or.inl ⟨by rfl,?_⟩) ?_ ?_
       rotate_left
       ·intro w'
        go_simp
        with_reducible rfl
       rotate_left
       ·simp only [Act.put,List.setIfInBounds_toArray,List.set_cons_zero,List.set_cons_succ,i64_w,i32_w]
        rfl
       refine done_ (done_of HT_.out (by kernel_rfl)) ?_
       try go_wp2
       go_meet
       case rel => exact ⟨_,((t304 == t305)),(by first | rfl | (simp; done) | (simp [*]; done)),H',⟨by have:=HJ4.out; first | omega | exact Nat.le_refl _⟩,⟨by (with_reducible repeat (first | apply zAb | apply zAd | apply zAa)); exact BK297.out⟩,⟨by repeat (first | (with_reducible first | exact HB.out | apply zAg | apply zAc | apply zAi | refine zAh ?_ GE297.out) | exact HB.out)⟩⟩
      ·rw [if_neg c17] at H
       have c17b0 : (t302 == t303) = false:=by simpa using c17
       (try (have c17b1 : decide (t302 = t303) = false:=by simpa using c17))
       (try (have c17b2 : (t302 == t303) = false:=by simpa using c17))
       (try (have c17b3 : ¬ (t302 = t303):=by simpa using c17))
       clear c17
       have H':=Aside0.mk H
       clear H
       try go_wp2
       have n0_:=Aside0.mk (zAd BK297.out)
       have n1_:=Aside0.mk (zAi HB.out)
       clear BK297
       clear HB
       have BK297:=n0_
       have HB:=n1_
       clear n0_ n1_
       refine start_ (n:=20) (S:=fun w' => w'.cell? ⟨w.heap.size,0,none⟩ = some (.slice A0_0 l0_0.length c0_0) ∧ w'.cell? ⟨w.heap.size,1,none⟩ = some (.int .i64 a0_1)) (ds:=[]) #[false,false,false,false,false,false,false,false,false,false,false,false,false,false,false,false,false,false,false,false] (by kernel_rfl) rfl rfl ⟨(zAf BK297.out 0).trans rfl,(zAf BK297.out 1).trans rfl⟩ (fun hHeld => ?_); refine zBs zAl.tab5 zAl.bits5 (fun HT_ HW_ => ?_)
       generalize wc.drew = w27 at BK297 HB hHeld ⊢
       refine take_ (i:=0) (N:=some 19) (v:=?_) (a':=?_) #[true,false,false,false,false,false,false,false,false,false,false,false,false,false,false,false,false,false,false,false] rfl rfl (zBb HT_.out HW_.out (by kernel_rfl)) (fun _ _ _ h => h) (Or.inl ⟨by rfl,?_⟩) hHeld ?_ ?_
       rotate_left
       ·rintro w' ⟨s0,s1⟩
        go_simp
        with_reducible rfl
       rotate_left
       ·simp only [Act.put,List.setIfInBounds_toArray,List.set_cons_zero,List.set_cons_succ,i64_w,i32_w]
        rfl
       refine take_ (i:=2) (N:=some 21) (v:=?_) (a':=?_) #[true,false,true,false,false,false,false,false,false,false,false,false,false,false,false,false,false,false,false,false] rfl rfl (zBb HT_.out HW_.out (by kernel_rfl)) (fun _ _ _ h => h) (Or.inl ⟨by rfl,?_⟩) hHeld ?_ ?_
       rotate_left
       ·rintro w' ⟨s0,s1⟩
        go_simp
        with_reducible rfl
       rotate_left
       ·simp only [Act.put,List.setIfInBounds_toArray,List.set_cons_zero,List.set_cons_succ,i64_w,i32_w]
        rfl
       refine one_ (i:=1) (N:=some 20) #[true,true,true,false,false,false,false,false,false,false,false,false,false,false,false,false,false,false,false,false] rfl rfl (one_of HT_.out (by kernel_rfl)) (by decide) (fun K hK => ?_)
       refine goes_ Try.func15 (by kernel_rfl) rfl #[.agg #[.slice A0_0 l0_0.length c0_0,.int .i64 a0_1]] (by rfl) rfl rfl (by (try simp only [List.map_toArray,List.map_cons,List.map_nil]); first | done | rfl | (simp only [List.length_drop,List.length_take]; rfl)) ?_
       with_reducible refine (zAJ.calls _ _ l0_0 a0_1 t300 _ ?side1 ?side2 A12.out).mono ?_
       (case side1 => repeat (first | exact (Kd.C_below HR0_0.out HB.out) | (with_reducible refine Kd.C_alloc ?_ _) | (with_reducible refine Kd.C_drewN ?_ _) | (with_reducible refine Kd.C_drew ?_)))
       (case side2 => exact HC0_0.out)
       rintro e w28 ⟨rfl,hb⟩
       refine ⟨_,rfl,?_⟩
       have n0_:=Aside0.mk (zAs (g:=w.heap.size) (o:=.cells #[.slice A0_0 l0_0.length c0_0,.int .i64 a0_1] 30 (0,0)) (by (with_reducible repeat (first | apply zAb | apply zAd | apply zAa)); exact BK297.out) hb)
       have n1_:=Aside0.mk (zAm (by repeat (first | (with_reducible first | exact HB.out | apply zAg | apply zAc | apply zAi | refine zAh ?_ GE297.out) | exact HB.out)) hb)
       clear BK297
       clear HB
       have BK297:=n0_
       have HB:=n1_
       clear n0_ n1_
       (try clear hb)
       (try clear hb2)
       (try clear hk)
       (try clear hi)
       refine hK.out _ _ ⟨(zAf BK297.out 0).trans rfl,(zAf BK297.out 1).trans rfl⟩ (fun hHeld => ?_)
       clear hK K
       refine norm_ (a':=?_) ?_ ?_
       rotate_left
       ·show Act.put _ (some 20) _ = _
        simp only [Act.put,List.setIfInBounds_toArray,List.set_cons_zero,List.set_cons_succ,i64_w,i32_w]
        rfl
       refine one_ (i:=3) (N:=some 22) #[true,true,true,true,false,false,false,false,false,false,false,false,false,false,false,false,false,false,false,false] rfl rfl (one_of HT_.out (by kernel_rfl)) (by decide) (fun K hK => ?_)
       refine goes_ Try.func20 (by kernel_rfl) rfl #[.agg #[.slice A0_0 l0_0.length c0_0,.int .i64 a0_1]] (by rfl) rfl rfl (by (try simp only [List.map_toArray,List.map_cons,List.map_nil]); first | done | rfl | (simp only [List.length_drop,List.length_take]; rfl)) ?_
       with_reducible refine (zAq.calls kj4 _ _ l0_0 a0_1 t301 _ ?side1 ?side2 A13.out).mono ?_
       (case side1 => repeat (first | exact (Kd.C_below HR0_0.out HB.out) | (with_reducible refine Kd.C_alloc ?_ _) | (with_reducible refine Kd.C_drewN ?_ _) | (with_reducible refine Kd.C_drew ?_)))
       (case side2 => exact HC0_0.out)
       rintro e w29 ⟨rfl,hb⟩
       refine ⟨_,rfl,?_⟩
       have n0_:=Aside0.mk (zAs (g:=w.heap.size) (o:=.cells #[.slice A0_0 l0_0.length c0_0,.int .i64 a0_1] 30 (0,0)) (by (with_reducible repeat (first | apply zAb | apply zAd | apply zAa)); exact BK297.out) hb)
       have n1_:=Aside0.mk (zAm (by repeat (first | (with_reducible first | exact HB.out | apply zAg | apply zAc | apply zAi | refine zAh ?_ GE297.out) | exact HB.out)) hb)
       clear BK297
       clear HB
       have BK297:=n0_
       have HB:=n1_
       clear n0_ n1_
       (try clear hb)
       (try clear hb2)
       (try clear hk)
       (try clear hi)
       refine hK.out _ _ ⟨(zAf BK297.out 0).trans rfl,(zAf BK297.out 1).trans rfl⟩ (fun hHeld => ?_)
       clear hK K
       refine norm_ (a':=?_) ?_ ?_
       rotate_left
       ·show Act.put _ (some 22) _ = _
        simp only [Act.put,List.setIfInBounds_toArray,List.set_cons_zero,List.set_cons_succ,i64_w,i32_w]
        rfl
       refine pure_ (i:=4) (N:=some 23) (v:=?_) (a':=?_) #[true,true,true,true,true,false,false,false,false,false,false,false,false,false,false,false,false,false,false,false] rfl rfl (any_of HT_.out (by kernel_rfl)) (fun _ _ _ h => h) (Or.inl ⟨by rfl,?_⟩) ?_ ?_
       rotate_left
       ·intro w'
        go_simp
        with_reducible rfl
       rotate_left
       ·simp only [Act.put,List.setIfInBounds_toArray,List.set_cons_zero,List.set_cons_succ,i64_w,i32_w]
        rfl
       refine pure_ (i:=5) (N:=some 24) (v:=?_) (a':=?_) #[true,true,true,true,true,true,false,false,false,false,false,false,false,false,false,false,false,false,false,false] rfl rfl (any_of HT_.out (by kernel_rfl)) (fun _ _ _ h => h) (Or.inl ⟨by rfl,?_⟩) ?_ ?_
       rotate_left
       ·intro w'
        go_simp
        with_reducible rfl
       rotate_left
       ·simp only [Act.put,List.setIfInBounds_toArray,List.set_cons_zero,List.set_cons_succ,i64_w,i32_w]
        rfl
       refine take_ (i:=6) (N:=some 25) (v:=?_) (a':=?_) #[true,true,true,true,true,true,true,false,false,false,false,false,false,false,false,false,false,false,false,false] rfl rfl (zBb HT_.out HW_.out (by kernel_rfl)) (fun _ _ _ h => h) (Or.inl ⟨by rfl,?_⟩) hHeld ?_ ?_
       rotate_left
       ·rintro w' ⟨s0,s1⟩
        go_simp
        with_reducible rfl
       rotate_left
       ·simp only [Act.put,List.setIfInBounds_toArray,List.set_cons_zero,List.set_cons_succ,i64_w,i32_w]
        rfl
       refine take_ (i:=8) (N:=some 27) (v:=?_) (a':=?_) #[true,true,true,true,true,true,true,false,true,false,false,false,false,false,false,false,false,false,false,false] rfl rfl (zBb HT_.out HW_.out (by kernel_rfl)) (fun _ _ _ h => h) (Or.inl ⟨by rfl,?_⟩) hHeld ?_ ?_
       rotate_left
       ·rintro w' ⟨s0,s1⟩
        go_simp
        with_reducible rfl
       rotate_left
       ·simp only [Act.put,List.setIfInBounds_toArray,List.set_cons_zero,List.set_cons_succ,i64_w,i32_w]
        rfl
       refine one_ (i:=7) (N:=some 26) #[true,true,true,true,true,true,true,true,true,false,false,false,false,false,false,false,false,false,false,false] rfl rfl (one_of HT_.out (by kernel_rfl)) (by decide) (fun K hK => ?_)
       refine goes_ Try.func19 (by kernel_rfl) rfl #[.agg #[.slice A0_0 l0_0.length c0_0,.int .i64 a0_1]] (by rfl) rfl rfl (by (try simp only [List.map_toArray,List.map_cons,List.map_nil]); first | done | rfl | (simp only [List.length_drop,List.length_take]; rfl)) ?_
       with_reducible refine (zBg.calls kj4 _ _ l0_0 a0_1 t302 _ ?side1 ?side2 A15.out (HE.out.below HB.out HE.out.six) HFS.out).mono ?_
       (case side1 => repeat (first | exact (Kd.C_below HR0_0.out HB.out) | (with_reducible refine Kd.C_alloc ?_ _) | (with_reducible refine Kd.C_drewN ?_ _) | (with_reducible refine Kd.C_drew ?_)))
       (case side2 => exact HC0_0.out)
       rintro e w30 ⟨rfl,hb⟩
       refine ⟨_,rfl,?_⟩
       have n0_:=Aside0.mk (zAs (g:=w.heap.size) (o:=.cells #[.slice A0_0 l0_0.length c0_0,.int .i64 a0_1] 30 (0,0)) (by (with_reducible repeat (first | apply zAb | apply zAd | apply zAa)); exact BK297.out) hb)
       have n1_:=Aside0.mk (zAm (by repeat (first | (with_reducible first | exact HB.out | apply zAg | apply zAc | apply zAi | refine zAh ?_ GE297.out) | exact HB.out)) hb)
       clear BK297
       clear HB
       have BK297:=n0_
       have HB:=n1_
       clear n0_ n1_
       (try clear hb)
       (try clear hb2)
       (try clear hk)
       (try clear hi)
       refine hK.out _ _ ⟨(zAf BK297.out 0).trans rfl,(zAf BK297.out 1).trans rfl⟩ (fun hHeld => ?_)
       clear hK K
       refine norm_ (a':=?_) ?_ ?_
       rotate_left
       ·show Act.put _ (some 26) _ = _
        simp only [Act.put,List.setIfInBounds_toArray,List.set_cons_zero,List.set_cons_succ,i64_w,i32_w]
        rfl
       refine one_ (i:=9) (N:=some 28) #[true,true,true,true,true,true,true,true,true,true,false,false,false,false,false,false,false,false,false,false] rfl rfl (one_of HT_.out (by kernel_rfl)) (by decide) (fun K hK => ?_)
       refine goes_ Try.func21 (by kernel_rfl) rfl #[.agg #[.slice A0_0 l0_0.length c0_0,.int .i64 a0_1]] (by rfl) rfl rfl (by (try simp only [List.map_toArray,List.map_cons,List.map_nil]); first | done | rfl | (simp only [List.length_drop,List.length_take]; rfl)) ?_
       with_reducible refine (zAW.calls kj4 _ _ l0_0 a0_1 t303 _ ?side1 ?side2 A16.out).mono ?_
       (case side1 => repeat (first | exact (Kd.C_below HR0_0.out HB.out) | (with_reducible refine Kd.C_alloc ?_ _) | (with_reducible refine Kd.C_drewN ?_ _) | (with_reducible refine Kd.C_drew ?_)))
       (case side2 => exact HC0_0.out)
       rintro e w31 ⟨rfl,hb⟩
       refine ⟨_,rfl,?_⟩
       have n0_:=Aside0.mk (zAs (g:=w.heap.size) (o:=.cells #[.slice A0_0 l0_0.length c0_0,.int .i64 a0_1] 30 (0,0)) (by (with_reducible repeat (first | apply zAb | apply zAd | apply zAa)); exact BK297.out) hb)
       have n1_:=Aside0.mk (zAm (by repeat (first | (with_reducible first | exact HB.out | apply zAg | apply zAc | apply zAi | refine zAh ?_ GE297.out) | exact HB.out)) hb)
       clear BK297
       clear HB
       have BK297:=n0_
       have HB:=n1_
       clear n0_ n1_
       (try clear hb)
       (try clear hb2)
       (try clear hk)
       (try clear hi)
       refine hK.out _ _ ⟨(zAf BK297.out 0).trans rfl,(zAf BK297.out 1).trans rfl⟩ (fun hHeld => ?_)
       clear hK K
       refine norm_ (a':=?_) ?_ ?_
       rotate_left
       ·show Act.put _ (some 28) _ = _
        simp only [Act.put,List.setIfInBounds_toArray,List.set_cons_zero,List.set_cons_succ,i64_w,i32_w]
        rfl
       refine pure_ (i:=10) (N:=some 29) (v:=?_) (a':=?_) #[true,true,true,true,true,true,true,true,true,true,true,false,false,false,false,false,false,false,false,false] rfl rfl (any_of HT_.out (by kernel_rfl)) (fun _ _ _ h => h) (Or.inl ⟨by rfl,?_⟩) ?_ ?_
       rotate_left
       ·intro w'
        go_simp
        with_reducible rfl
       rotate_left
       ·simp only [Act.put,List.setIfInBounds_toArray,List.set_cons_zero,List.set_cons_succ,i64_w,i32_w]
        rfl
       refine pure_ (i:=11) (N:=some 30) (v:=?_) (a':=?_) #[true,true,true,true,true,true,true,true,true,true,true,true,false,false,false,false,false,false,false,false] rfl rfl (any_of HT_.out (by kernel_rfl)) (fun _ _ _ h => h) (Or.inl ⟨by rfl,?_⟩) ?_ ?_
       rotate_left
       ·intro w'
        go_simp
        with_reducible rfl
       rotate_left
       ·simp only [Act.put,List.setIfInBounds_toArray,List.set_cons_zero,List.set_cons_succ,i64_w,i32_w]
        rfl
       refine pure_ (i:=12) (N:=some 31) (v:=?_) (a':=?_) #[true,true,true,true,true,true,true,true,true,true,true,true,true,false,false,false,false,false,false,false] rfl rfl (any_of HT_.out (by kernel_rfl)) (fun _ _ _ h => h) (Or.inl ⟨by rfl,?_⟩) ?_ ?_
       rotate_left
       ·intro w'
        go_simp
        with_reducible rfl
       rotate_left
       ·simp only [Act.put,List.setIfInBounds_toArray,List.set_cons_zero,List.set_cons_succ,i64_w,i32_w]
        rfl
       refine pure_ (i:=13) (N:=some 32) (v:=undef) (a':=?_) #[true,true,true,true,true,true,true,true,true,true,true,true,true,true,false,false,false,false,false,false] rfl rfl (any_of HT_.out (by kernel_rfl)) (fun _ _ _ h => h) (Or.inr ⟨by rfl,rfl⟩) ?_ ?_
       rotate_left
       ·simp only [Act.put,List.setIfInBounds_toArray,List.set_cons_zero,List.set_cons_succ,i64_w,i32_w]
        rfl
       refine pure_ (i:=14) (N:=some 33) (v:=undef) (a':=?_) #[true,true,true,true,true,true,true,true,true,true,true,true,true,true,true,false,false,false,false,false] rfl rfl (any_of HT_.out (by kernel_rfl)) (fun _ _ _ h => h) (Or.inr ⟨by rfl,rfl⟩) ?_ ?_
       rotate_left
       ·simp only [Act.put,List.setIfInBounds_toArray,List.set_cons_zero,List.set_cons_succ,i64_w,i32_w]
        rfl
       refine pure_ (i:=15) (N:=some 34) (v:=undef) (a':=?_) #[true,true,true,true,true,true,true,true,true,true,true,true,true,true,true,true,false,false,false,false] rfl rfl (any_of HT_.out (by kernel_rfl)) (fun _ _ _ h => h) (Or.inr ⟨by rfl,rfl⟩) ?_ ?_
       rotate_left
       ·simp only [Act.put,List.setIfInBounds_toArray,List.set_cons_zero,List.set_cons_succ,i64_w,i32_w]
        rfl
       refine pure_ (i:=16) (N:=some 35) (v:=undef) (a':=?_) #[true,true,true,true,true,true,true,true,true,true,true,true,true,true,true,true,true,false,false,false] rfl rfl (any_of HT_.out (by kernel_rfl)) (fun _ _ _ h => h) (Or.inr ⟨by rfl,rfl⟩) ?_ ?_
       rotate_left
       ·simp only [Act.put,List.setIfInBounds_toArray,List.set_cons_zero,List.set_cons_succ,i64_w,i32_w]
        rfl
       refine pure_ (i:=17) (N:=some 36) (v:=undef) (a':=?_) #[true,true,true,true,true,true,true,true,true,true,true,true,true,true,true,true,true,true,false,false] rfl rfl (any_of HT_.out (by kernel_rfl)) (fun _ _ _ h => h) (Or.inr ⟨by rfl,rfl⟩) ?_ ?_
       rotate_left
       ·simp only [Act.put,List.setIfInBounds_toArray,List.set_cons_zero,List.set_cons_succ,i64_w,i32_w]
        rfl
       refine pure_ (i:=18) (N:=some 37) (v:=?_) (a':=?_) #[true,true,true,true,true,true,true,true,true,true,true,true,true,true,true,true,true,true,true,false] rfl rfl (any_of HT_.out (by kernel_rfl)) (fun _ _ _ h => h) (Or.inl ⟨by rfl,?_⟩) ?_ ?_
       rotate_left
       ·intro w'
        go_simp
        with_reducible rfl
       rotate_left
       ·simp only [Act.put,List.setIfInBounds_toArray,List.set_cons_zero,List.set_cons_succ,i64_w,i32_w]
        rfl
       refine pure_ (i:=19) (N:=some 7) (v:=?_) (a':=?_) #[true,true,true,true,true,true,true,true,true,true,true,true,true,true,true,true,true,true,true,true] rfl rfl (any_of HT_.out (by kernel_rfl)) (fun _ _ _ h => h) (Or.inl ⟨by rfl,?_⟩) ?_ ?_
       rotate_left
       ·intro w'
        go_simp
        with_reducible rfl
       rotate_left
       ·simp only [Act.put,List.setIfInBounds_toArray,List.set_cons_zero,List.set_cons_succ,i64_w,i32_w]
        rfl
       refine done_ (done_of HT_.out (by kernel_rfl)) ?_
       try go_wp2
       go_meet
       case rel => exact ⟨_,(false),(by first | rfl | (simp; done) | (simp [*]; done)),H',⟨by have:=HJ4.out; first | omega | exact Nat.le_refl _⟩,⟨by (with_reducible repeat (first | apply zAb | apply zAd | apply zAa)); exact BK297.out⟩,⟨by repeat (first | (with_reducible first | exact HB.out | apply zAg | apply zAc | apply zAi | refine zAh ?_ GE297.out) | exact HB.out)⟩⟩
     ·rw [if_neg c14] at H
      have c14b0 : (t300 == t301) = false:=by simpa using c14
      (try (have c14b1 : decide (t300 = t301) = false:=by simpa using c14))
      (try (have c14b2 : (t300 == t301) = false:=by simpa using c14))
      (try (have c14b3 : ¬ (t300 = t301):=by simpa using c14))
      clear c14
      (first | rw [c14b0] | (simp only [i64_w,i32_w]; rw [c14b0]) | skip)
      have H':=Aside0.mk H
      clear H
      try go_wp2
      have n0_:=Aside0.mk (zAd BK297.out)
      have n1_:=Aside0.mk (zAi HB.out)
      clear BK297
      clear HB
      have BK297:=n0_
      have HB:=n1_
      clear n0_ n1_
      refine start_ (n:=20) (S:=fun w' => w'.cell? ⟨w.heap.size,0,none⟩ = some (.slice A0_0 l0_0.length c0_0) ∧ w'.cell? ⟨w.heap.size,1,none⟩ = some (.int .i64 a0_1)) (ds:=[]) #[false,false,false,false,false,false,false,false,false,false,false,false,false,false,false,false,false,false,false,false] (by kernel_rfl) rfl rfl ⟨(zAf BK297.out 0).trans rfl,(zAf BK297.out 1).trans rfl⟩ (fun hHeld => ?_); refine zBs zAl.tab5 zAl.bits5 (fun HT_ HW_ => ?_)
      generalize wc.drew = w32 at BK297 HB hHeld ⊢
      refine take_ (i:=0) (N:=some 19) (v:=?_) (a':=?_) #[true,false,false,false,false,false,false,false,false,false,false,false,false,false,false,false,false,false,false,false] rfl rfl (zBb HT_.out HW_.out (by kernel_rfl)) (fun _ _ _ h => h) (Or.inl ⟨by rfl,?_⟩) hHeld ?_ ?_
      rotate_left
      ·rintro w' ⟨s0,s1⟩
       go_simp
       with_reducible rfl
      rotate_left
      ·simp only [Act.put,List.setIfInBounds_toArray,List.set_cons_zero,List.set_cons_succ,i64_w,i32_w]
       rfl
      refine take_ (i:=2) (N:=some 21) (v:=?_) (a':=?_) #[true,false,true,false,false,false,false,false,false,false,false,false,false,false,false,false,false,false,false,false] rfl rfl (zBb HT_.out HW_.out (by kernel_rfl)) (fun _ _ _ h => h) (Or.inl ⟨by rfl,?_⟩) hHeld ?_ ?_
      rotate_left
      ·rintro w' ⟨s0,s1⟩
       go_simp
       with_reducible rfl
      rotate_left
      ·simp only [Act.put,List.setIfInBounds_toArray,List.set_cons_zero,List.set_cons_succ,i64_w,i32_w]
       rfl
      refine one_ (i:=1) (N:=some 20) #[true,true,true,false,false,false,false,false,false,false,false,false,false,false,false,false,false,false,false,false] rfl rfl (one_of HT_.out (by kernel_rfl)) (by decide) (fun K hK => ?_)
      refine goes_ Try.func15 (by kernel_rfl) rfl #[.agg #[.slice A0_0 l0_0.length c0_0,.int .i64 a0_1]] (by rfl) rfl rfl (by (try simp only [List.map_toArray,List.map_cons,List.map_nil]); first | done | rfl | (simp only [List.length_drop,List.length_take]; rfl)) ?_
      with_reducible refine (zAJ.calls _ _ l0_0 a0_1 t300 _ ?side1 ?side2 A12.out).mono ?_
      (case side1 => repeat (first | exact (Kd.C_below HR0_0.out HB.out) | (with_reducible refine Kd.C_alloc ?_ _) | (with_reducible refine Kd.C_drewN ?_ _) | (with_reducible refine Kd.C_drew ?_)))
      (case side2 => exact HC0_0.out)
      rintro e w33 ⟨rfl,hb⟩
      refine ⟨_,rfl,?_⟩
      have n0_:=Aside0.mk (zAs (g:=w.heap.size) (o:=.cells #[.slice A0_0 l0_0.length c0_0,.int .i64 a0_1] 30 (0,0)) (by (with_reducible repeat (first | apply zAb | apply zAd | apply zAa)); exact BK297.out) hb)
      have n1_:=Aside0.mk (zAm (by repeat (first | (with_reducible first | exact HB.out | apply zAg | apply zAc | apply zAi | refine zAh ?_ GE297.out) | exact HB.out)) hb)
      clear BK297
      clear HB
      have BK297:=n0_
      have HB:=n1_
      clear n0_ n1_
      (try clear hb)
      (try clear hb2)
      (try clear hk)
      (try clear hi)
      refine hK.out _ _ ⟨(zAf BK297.out 0).trans rfl,(zAf BK297.out 1).trans rfl⟩ (fun hHeld => ?_)
      clear hK K
      refine norm_ (a':=?_) ?_ ?_
      rotate_left
      ·show Act.put _ (some 20) _ = _
       simp only [Act.put,List.setIfInBounds_toArray,List.set_cons_zero,List.set_cons_succ,i64_w,i32_w]
       rfl
      refine one_ (i:=3) (N:=some 22) #[true,true,true,true,false,false,false,false,false,false,false,false,false,false,false,false,false,false,false,false] rfl rfl (one_of HT_.out (by kernel_rfl)) (by decide) (fun K hK => ?_)
      refine goes_ Try.func20 (by kernel_rfl) rfl #[.agg #[.slice A0_0 l0_0.length c0_0,.int .i64 a0_1]] (by rfl) rfl rfl (by (try simp only [List.map_toArray,List.map_cons,List.map_nil]); first | done | rfl | (simp only [List.length_drop,List.length_take]; rfl)) ?_
      with_reducible refine (zAq.calls kj4 _ _ l0_0 a0_1 t301 _ ?side1 ?side2 A13.out).mono ?_
      (case side1 => repeat (first | exact (Kd.C_below HR0_0.out HB.out) | (with_reducible refine Kd.C_alloc ?_ _) | (with_reducible refine Kd.C_drewN ?_ _) | (with_reducible refine Kd.C_drew ?_)))
      (case side2 => exact HC0_0.out)
      rintro e w34 ⟨rfl,hb⟩
      refine ⟨_,rfl,?_⟩
      have n0_:=Aside0.mk (zAs (g:=w.heap.size) (o:=.cells #[.slice A0_0 l0_0.length c0_0,.int .i64 a0_1] 30 (0,0)) (by (with_reducible repeat (first | apply zAb | apply zAd | apply zAa)); exact BK297.out) hb)
      have n1_:=Aside0.mk (zAm (by repeat (first | (with_reducible first | exact HB.out | apply zAg | apply zAc | apply zAi | refine zAh ?_ GE297.out) | exact HB.out)) hb)
      clear BK297
      clear HB
      have BK297:=n0_
      have HB:=n1_
      clear n0_ n1_
      (try clear hb)
      (try clear hb2)
      (try clear hk)
      (try clear hi)
      refine hK.out _ _ ⟨(zAf BK297.out 0).trans rfl,(zAf BK297.out 1).trans rfl⟩ (fun hHeld => ?_)
      clear hK K
      refine norm_ (a':=?_) ?_ ?_
      rotate_left
      ·show Act.put _ (some 22) _ = _
       simp only [Act.put,List.setIfInBounds_toArray,List.set_cons_zero,List.set_cons_succ,i64_w,i32_w]
       rfl
      refine pure_ (i:=4) (N:=some 23) (v:=?_) (a':=?_) #[true,true,true,true,true,false,false,false,false,false,false,false,false,false,false,false,false,false,false,false] rfl rfl (any_of HT_.out (by kernel_rfl)) (fun _ _ _ h => h) (Or.inl ⟨by rfl,?_⟩) ?_ ?_
      rotate_left
      ·intro w'
       go_simp
       with_reducible rfl
      rotate_left
      ·simp only [Act.put,List.setIfInBounds_toArray,List.set_cons_zero,List.set_cons_succ,i64_w,i32_w]
       rfl
      refine pure_ (i:=5) (N:=some 24) (v:=?_) (a':=?_) #[true,true,true,true,true,true,false,false,false,false,false,false,false,false,false,false,false,false,false,false] rfl rfl (any_of HT_.out (by kernel_rfl)) (fun _ _ _ h => h) (Or.inl ⟨by rfl,?_⟩) ?_ ?_
      rotate_left
      ·intro w'
       go_simp
       with_reducible rfl
      rotate_left
      ·simp only [Act.put,List.setIfInBounds_toArray,List.set_cons_zero,List.set_cons_succ,i64_w,i32_w]
       rfl
      refine pure_ (i:=6) (N:=some 25) (v:=undef) (a':=?_) #[true,true,true,true,true,true,true,false,false,false,false,false,false,false,false,false,false,false,false,false] rfl rfl (any_of HT_.out (by kernel_rfl)) (fun _ _ _ h => h) (Or.inr ⟨by rfl,rfl⟩) ?_ ?_
      rotate_left
      ·simp only [Act.put,List.setIfInBounds_toArray,List.set_cons_zero,List.set_cons_succ,i64_w,i32_w]
       rfl
      refine pure_ (i:=7) (N:=some 26) (v:=undef) (a':=?_) #[true,true,true,true,true,true,true,true,false,false,false,false,false,false,false,false,false,false,false,false] rfl rfl (any_of HT_.out (by kernel_rfl)) (fun _ _ _ h => h) (Or.inr ⟨by rfl,rfl⟩) ?_ ?_
      rotate_left
      ·simp only [Act.put,List.setIfInBounds_toArray,List.set_cons_zero,List.set_cons_succ,i64_w,i32_w]
       rfl
      refine pure_ (i:=8) (N:=some 27) (v:=undef) (a':=?_) #[true,true,true,true,true,true,true,true,true,false,false,false,false,false,false,false,false,false,false,false] rfl rfl (any_of HT_.out (by kernel_rfl)) (fun _ _ _ h => h) (Or.inr ⟨by rfl,rfl⟩) ?_ ?_
      rotate_left
      ·simp only [Act.put,List.setIfInBounds_toArray,List.set_cons_zero,List.set_cons_succ,i64_w,i32_w]
       rfl
      refine pure_ (i:=9) (N:=some 28) (v:=undef) (a':=?_) #[true,true,true,true,true,true,true,true,true,true,false,false,false,false,false,false,false,false,false,false] rfl rfl (any_of HT_.out (by kernel_rfl)) (fun _ _ _ h => h) (Or.inr ⟨by rfl,rfl⟩) ?_ ?_
      rotate_left
      ·simp only [Act.put,List.setIfInBounds_toArray,List.set_cons_zero,List.set_cons_succ,i64_w,i32_w]
       rfl
      refine pure_ (i:=10) (N:=some 29) (v:=undef) (a':=?_) #[true,true,true,true,true,true,true,true,true,true,true,false,false,false,false,false,false,false,false,false] rfl rfl (any_of HT_.out (by kernel_rfl)) (fun _ _ _ h => h) (Or.inr ⟨by rfl,rfl⟩) ?_ ?_
      rotate_left
      ·simp only [Act.put,List.setIfInBounds_toArray,List.set_cons_zero,List.set_cons_succ,i64_w,i32_w]
       rfl
      refine pure_ (i:=11) (N:=some 30) (v:=?_) (a':=?_) #[true,true,true,true,true,true,true,true,true,true,true,true,false,false,false,false,false,false,false,false] rfl rfl (any_of HT_.out (by kernel_rfl)) (fun _ _ _ h => h) (Or.inl ⟨by rfl,?_⟩) ?_ ?_
      rotate_left
      ·intro w'
       go_simp
       with_reducible rfl
      rotate_left
      ·simp only [Act.put,List.setIfInBounds_toArray,List.set_cons_zero,List.set_cons_succ,i64_w,i32_w]
       rfl
      refine pure_ (i:=12) (N:=some 31) (v:=?_) (a':=?_) #[true,true,true,true,true,true,true,true,true,true,true,true,true,false,false,false,false,false,false,false] rfl rfl (any_of HT_.out (by kernel_rfl)) (fun _ _ _ h => h) (Or.inl ⟨by rfl,?_⟩) ?_ ?_
      rotate_left
      ·intro w'
       go_simp
       with_reducible rfl
      rotate_left
      ·simp only [Act.put,List.setIfInBounds_toArray,List.set_cons_zero,List.set_cons_succ,i64_w,i32_w]
       rfl
      refine pure_ (i:=13) (N:=some 32) (v:=undef) (a':=?_) #[true,true,true,true,true,true,true,true,true,true,true,true,true,true,false,false,false,false,false,false] rfl rfl (any_of HT_.out (by kernel_rfl)) (fun _ _ _ h => h) (Or.inr ⟨by rfl,rfl⟩) ?_ ?_
      rotate_left
      ·simp only [Act.put,List.setIfInBounds_toArray,List.set_cons_zero,List.set_cons_succ,i64_w,i32_w]
       rfl
      refine pure_ (i:=14) (N:=some 33) (v:=undef) (a':=?_) #[true,true,true,true,true,true,true,true,true,true,true,true,true,true,true,false,false,false,false,false] rfl rfl (any_of HT_.out (by kernel_rfl)) (fun _ _ _ h => h) (Or.inr ⟨by rfl,rfl⟩) ?_ ?_
      rotate_left
      ·simp only [Act.put,List.setIfInBounds_toArray,List.set_cons_zero,List.set_cons_succ,i64_w,i32_w]
       rfl
      refine pure_ (i:=15) (N:=some 34) (v:=undef) (a':=?_) #[true,true,true,true,true,true,true,true,true,true,true,true,true,true,true,true,false,false,false,false] rfl rfl (any_of HT_.out (by kernel_rfl)) (fun _ _ _ h => h) (Or.inr ⟨by rfl,rfl⟩) ?_ ?_
      rotate_left
      ·simp only [Act.put,List.setIfInBounds_toArray,List.set_cons_zero,List.set_cons_succ,i64_w,i32_w]
       rfl
      refine pure_ (i:=16) (N:=some 35) (v:=undef) (a':=?_) #[true,true,true,true,true,true,true,true,true,true,true,true,true,true,true,true,true,false,false,false] rfl rfl (any_of HT_.out (by kernel_rfl)) (fun _ _ _ h => h) (Or.inr ⟨by rfl,rfl⟩) ?_ ?_
      rotate_left
      ·simp only [Act.put,List.setIfInBounds_toArray,List.set_cons_zero,List.set_cons_succ,i64_w,i32_w]
       rfl
      refine pure_ (i:=17) (N:=some 36) (v:=undef) (a':=?_) #[true,true,true,true,true,true,true,true,true,true,true,true,true,true,true,true,true,true,false,false] rfl rfl (any_of HT_.out (by kernel_rfl)) (fun _ _ _ h => h) (Or.inr ⟨by rfl,rfl⟩) ?_ ?_
      rotate_left
      ·simp only [Act.put,List.setIfInBounds_toArray,List.set_cons_zero,List.set_cons_succ,i64_w,i32_w]
       rfl
      refine pure_ (i:=18) (N:=some 37) (v:=?_) (a':=?_) #[true,true,true,true,true,true,true,true,true,true,true,true,true,true,true,true,true,true,true,false] rfl rfl (any_of HT_.out (by kernel_rfl)) (fun _ _ _ h => h) (Or.inl ⟨by rfl,?_⟩) ?_ ?_
      rotate_left
      ·intro w'
       go_simp
       with_reducible rfl
      rotate_left
      ·simp only [Act.put,List.setIfInBounds_toArray,List.set_cons_zero,List.set_cons_succ,i64_w,i32_w]
       rfl
      refine pure_ (i:=19) (N:=some 7) (v:=?_) (a':=?_) #[true,true,true,true,true,true,true,true,true,true,true,true,true,true,true,true,true,true,true,true] rfl rfl (any_of HT_.out (by kernel_rfl)) (fun _ _ _ h => h) (Or.inl ⟨by rfl,?_⟩) ?_ ?_
      rotate_left
      ·intro w'
       go_simp
       with_reducible rfl
      rotate_left
      ·simp only [Act.put,List.setIfInBounds_toArray,List.set_cons_zero,List.set_cons_succ,i64_w,i32_w]
       rfl
      refine done_ (done_of HT_.out (by kernel_rfl)) ?_
      try go_wp2
      go_meet
      case rel => exact ⟨_,(false),(by first | rfl | (simp; done) | (simp [*]; done)),H',⟨by have:=HJ4.out; first | omega | exact Nat.le_refl _⟩,⟨by (with_reducible repeat (first | apply zAb | apply zAd | apply zAa)); exact BK297.out⟩,⟨by repeat (first | (with_reducible first | exact HB.out | apply zAg | apply zAc | apply zAi | refine zAh ?_ GE297.out) | exact HB.out)⟩⟩
    case rest =>
     clear HC11
     try clear c1
     try clear c2
     try clear p2
     try clear c14
     try clear c14b0
     try clear c14b1
     try clear c14b2
     try clear c15
     try clear c17
     try clear c17b0
     try clear c17b1
     try clear c17b2
     try clear c19
     try clear c20
     try clear c21
     try clear c22
     obtain ⟨kq,x7_10,rfl,HA,HJ10,BK297,HB⟩:=hcut
     cases kq with
     | zero => exact absurd HA.out (by simp [zAl.j1])
     | succ kj10 =>
      have H:=HA.out
      clear HA
      simp only [zAl.j1] at H
      by_cases c35 : x7_10 = true
      ·subst c35
       have H1 : ((zAF.f kj10 l0_0 a0_1).bind fun t306 => ((zAy.f kj10 l0_0 a0_1).bind fun t309 => ((zAB.f kj10 t306 t309).bind fun t312 => (if t312 = true then ((zAK.f kj10 l0_0 a0_1 a1).bind fun bt313 => ((zAx.f kj10 l0_0 a0_1 a1).bind fun bt317 => ((zAC.f kj10 bt313.1 bt313.2 bt317.1 bt317.2).bind fun t321 => (some t321)))) else (some false))))) = some r:=by rw [if_pos rfl] at H; exact H
       clear H
       have H:=H1
       clear H1
       replace H:=Option.bind_eq_some_iff.mp H
       obtain ⟨t306,A360,H⟩:=H
       replace H : ((zAy.f kj10 l0_0 a0_1).bind fun t309 => ((zAB.f kj10 t306 t309).bind fun t312 => (if t312 = true then ((zAK.f kj10 l0_0 a0_1 a1).bind fun bt313 => ((zAx.f kj10 l0_0 a0_1 a1).bind fun bt317 => ((zAC.f kj10 bt313.1 bt313.2 bt317.1 bt317.2).bind fun t321 => (some t321)))) else (some false)))) = some r:=H
       have A36:=Aside0.mk A360
       clear A360
       replace H:=Option.bind_eq_some_iff.mp H
       obtain ⟨t309,A370,H⟩:=H
       replace H : ((zAB.f kj10 t306 t309).bind fun t312 => (if t312 = true then ((zAK.f kj10 l0_0 a0_1 a1).bind fun bt313 => ((zAx.f kj10 l0_0 a0_1 a1).bind fun bt317 => ((zAC.f kj10 bt313.1 bt313.2 bt317.1 bt317.2).bind fun t321 => (some t321)))) else (some false))) = some r:=H
       have A37:=Aside0.mk A370
       clear A370
       replace H:=Option.bind_eq_some_iff.mp H
       obtain ⟨t312,A380,H⟩:=H
       replace H : (if t312 = true then ((zAK.f kj10 l0_0 a0_1 a1).bind fun bt313 => ((zAx.f kj10 l0_0 a0_1 a1).bind fun bt317 => ((zAC.f kj10 bt313.1 bt313.2 bt317.1 bt317.2).bind fun t321 => (some t321)))) else (some false)) = some r:=H
       have A38:=Aside0.mk A380
       clear A380
       by_cases c39 : t312 = true
       ·subst c39
        have H1 : ((zAK.f kj10 l0_0 a0_1 a1).bind fun bt313 => ((zAx.f kj10 l0_0 a0_1 a1).bind fun bt317 => ((zAC.f kj10 bt313.1 bt313.2 bt317.1 bt317.2).bind fun t321 => (some t321)))) = some r:=by rw [if_pos rfl] at H; exact H
        clear H
        have H:=H1
        clear H1
        replace H:=Option.bind_eq_some_iff.mp H
        obtain ⟨⟨t313,t316⟩,A400,H⟩:=H
        replace H : ((zAx.f kj10 l0_0 a0_1 a1).bind fun bt317 => ((zAC.f kj10 t313 t316 bt317.1 bt317.2).bind fun t321 => (some t321))) = some r:=H
        have A40:=Aside0.mk A400
        clear A400
        replace H:=Option.bind_eq_some_iff.mp H
        obtain ⟨⟨t317,t320⟩,A410,H⟩:=H
        replace H : ((zAC.f kj10 t313 t316 t317 t320).bind fun t321 => (some t321)) = some r:=H
        have A41:=Aside0.mk A410
        clear A410
        replace H:=Option.bind_eq_some_iff.mp H
        obtain ⟨t321,A420,H⟩:=H
        replace H : (some t321) = some r:=H
        have A42:=Aside0.mk A420
        clear A420
        obtain rfl:=Option.some.inj H
        try go_wp2
        have n0_:=Aside0.mk (zAd BK297.out)
        have n1_:=Aside0.mk (zAi HB.out)
        clear BK297
        clear HB
        have BK297:=n0_
        have HB:=n1_
        clear n0_ n1_
        refine start_ (n:=18) (S:=fun w' => w'.cell? ⟨w.heap.size,0,none⟩ = some (.slice A0_0 l0_0.length c0_0) ∧ w'.cell? ⟨w.heap.size,1,none⟩ = some (.int .i64 a0_1)) (ds:=[]) #[false,false,false,false,false,false,false,false,false,false,false,false,false,false,false,false,false,false] (by kernel_rfl) rfl rfl ⟨(zAf BK297.out 0).trans rfl,(zAf BK297.out 1).trans rfl⟩ (fun hHeld => ?_); refine zBs zAl.tab6 zAl.bits6 (fun HT_ HW_ => ?_)
        generalize wc.drew = w43 at BK297 HB hHeld ⊢
        refine pure_ (i:=0) (N:=some 38) (v:=?_) (a':=?_) #[true,false,false,false,false,false,false,false,false,false,false,false,false,false,false,false,false,false] rfl rfl (any_of HT_.out (by kernel_rfl)) (fun _ _ _ h => h) (Or.inl ⟨by rfl,?_⟩) ?_ ?_
        rotate_left
        ·intro w'
         go_simp
         with_reducible rfl
        rotate_left
        ·simp only [Act.put,List.setIfInBounds_toArray,List.set_cons_zero,List.set_cons_succ,i64_w,i32_w]
         rfl
        refine pure_ (i:=1) (N:=some 39) (v:=?_) (a':=?_) #[true,true,false,false,false,false,false,false,false,false,false,false,false,false,false,false,false,false] rfl rfl (any_of HT_.out (by kernel_rfl)) (fun _ _ _ h => h) (Or.inl ⟨by rfl,?_⟩) ?_ ?_
        rotate_left
        ·intro w'
         go_simp
         with_reducible rfl
        rotate_left
        ·simp only [Act.put,List.setIfInBounds_toArray,List.set_cons_zero,List.set_cons_succ,i64_w,i32_w]
         rfl
        refine take_ (i:=2) (N:=some 40) (v:=?_) (a':=?_) #[true,true,true,false,false,false,false,false,false,false,false,false,false,false,false,false,false,false] rfl rfl (zBb HT_.out HW_.out (by kernel_rfl)) (fun _ _ _ h => h) (Or.inl ⟨by rfl,?_⟩) hHeld ?_ ?_
        rotate_left
        ·rintro w' ⟨s0,s1⟩
         go_simp
         with_reducible rfl
        rotate_left
        ·simp only [Act.put,List.setIfInBounds_toArray,List.set_cons_zero,List.set_cons_succ,i64_w,i32_w]
         rfl
        refine take_ (i:=4) (N:=some 42) (v:=?_) (a':=?_) #[true,true,true,false,true,false,false,false,false,false,false,false,false,false,false,false,false,false] rfl rfl (zBb HT_.out HW_.out (by kernel_rfl)) (fun _ _ _ h => h) (Or.inl ⟨by rfl,?_⟩) hHeld ?_ ?_
        rotate_left
        ·rintro w' ⟨s0,s1⟩
         go_simp
         with_reducible rfl
        rotate_left
        ·simp only [Act.put,List.setIfInBounds_toArray,List.set_cons_zero,List.set_cons_succ,i64_w,i32_w]
         rfl
        refine one_ (i:=3) (N:=some 41) #[true,true,true,true,true,false,false,false,false,false,false,false,false,false,false,false,false,false] rfl rfl (one_of HT_.out (by kernel_rfl)) (by decide) (fun K hK => ?_)
        refine goes_ Try.func18 (by kernel_rfl) rfl #[.agg #[.slice A0_0 l0_0.length c0_0,.int .i64 a0_1]] (by rfl) rfl rfl (by (try simp only [List.map_toArray,List.map_cons,List.map_nil]); first | done | rfl | (simp only [List.length_drop,List.length_take]; rfl)) ?_
        with_reducible refine (zAF.calls kj10 _ _ l0_0 a0_1 t306 _ ?side1 ?side2 A36.out).mono ?_
        (case side1 => repeat (first | exact (Kd.C_below HR0_0.out HB.out) | (with_reducible refine Kd.C_alloc ?_ _) | (with_reducible refine Kd.C_drewN ?_ _) | (with_reducible refine Kd.C_drew ?_)))
        (case side2 => exact HC0_0.out)
        rintro e w44 ⟨v307,rfl,ho0,hb⟩
        refine ⟨_,rfl,?_⟩
        have n0_:=Aside0.mk (Kd.R_lower ho0 (zAp (by repeat (first | (with_reducible first | exact HB.out | apply zAg | apply zAc | apply zAi | refine zAh ?_ GE297.out) | exact HB.out))))
        have n1_:=Aside0.mk (zAs (g:=w.heap.size) (o:=.cells #[.slice A0_0 l0_0.length c0_0,.int .i64 a0_1] 30 (0,0)) (by (with_reducible repeat (first | apply zAb | apply zAd | apply zAa)); exact BK297.out) hb)
        have n2_:=Aside0.mk (zAm (by repeat (first | (with_reducible first | exact HB.out | apply zAg | apply zAc | apply zAi | refine zAh ?_ GE297.out) | exact HB.out)) hb)
        clear BK297
        clear HB
        have HO308:=n0_
        have BK297:=n1_
        have HB:=n2_
        clear n0_ n1_ n2_
        (try clear hb)
        (try clear hb2)
        (try clear hk)
        (try clear hi)
        (try clear ho0)
        refine hK.out _ _ ⟨(zAf BK297.out 0).trans rfl,(zAf BK297.out 1).trans rfl⟩ (fun hHeld => ?_)
        clear hK K
        refine norm_ (a':=?_) ?_ ?_
        rotate_left
        ·show Act.put _ (some 41) _ = _
         simp only [Act.put,List.setIfInBounds_toArray,List.set_cons_zero,List.set_cons_succ,i64_w,i32_w]
         rfl
        refine one_ (i:=5) (N:=some 43) #[true,true,true,true,true,true,false,false,false,false,false,false,false,false,false,false,false,false] rfl rfl (one_of HT_.out (by kernel_rfl)) (by decide) (fun K hK => ?_)
        refine goes_ Try.func24 (by kernel_rfl) rfl #[.agg #[.slice A0_0 l0_0.length c0_0,.int .i64 a0_1]] (by rfl) rfl rfl (by (try simp only [List.map_toArray,List.map_cons,List.map_nil]); first | done | rfl | (simp only [List.length_drop,List.length_take]; rfl)) ?_
        with_reducible refine (zAy.calls kj10 _ _ l0_0 a0_1 t309 _ ?side1 ?side2 A37.out).mono ?_
        (case side1 => repeat (first | exact (Kd.C_below HR0_0.out HB.out) | (with_reducible refine Kd.C_alloc ?_ _) | (with_reducible refine Kd.C_drewN ?_ _) | (with_reducible refine Kd.C_drew ?_)))
        (case side2 => exact HC0_0.out)
        rintro e w45 ⟨v310,rfl,ho0,hb⟩
        refine ⟨_,rfl,?_⟩
        have n0_:=Aside0.mk (Kd.zCq (by (with_reducible repeat (first | apply Kd.R_alloc | apply Kd.R_drewN | apply Kd.R_drew)); exact HO308.out) (Kd.R_base ho0) hb)
        have n1_:=Aside0.mk (Kd.R_lower (Kd.R_new' ho0 (Kd.R_lt (by (with_reducible repeat (first | apply Kd.R_alloc | apply Kd.R_drewN | apply Kd.R_drew)); exact HO308.out))) (zAp (by repeat (first | (with_reducible first | exact HB.out | apply zAg | apply zAc | apply zAi | refine zAh ?_ GE297.out) | exact HB.out))))
        have n2_:=Aside0.mk (zAs (g:=w.heap.size) (o:=.cells #[.slice A0_0 l0_0.length c0_0,.int .i64 a0_1] 30 (0,0)) (by (with_reducible repeat (first | apply zAb | apply zAd | apply zAa)); exact BK297.out) hb)
        have n3_:=Aside0.mk (zAm (by repeat (first | (with_reducible first | exact HB.out | apply zAg | apply zAc | apply zAi | refine zAh ?_ GE297.out) | exact HB.out)) hb)
        clear HO308
        clear BK297
        clear HB
        have HO308:=n0_
        have HO311:=n1_
        have BK297:=n2_
        have HB:=n3_
        clear n0_ n1_ n2_ n3_
        (try clear hb)
        (try clear hb2)
        (try clear hk)
        (try clear hi)
        (try clear ho0)
        obtain ⟨Ao46,co46,eo46⟩:=Kd.R_slice HO308.out
        (first | subst eo46 | (injection eo46 with f1_ f2_ f3_; have f4_:=f1_.symm; have f5_:=f3_.symm; clear f1_ f2_ f3_; subst f4_; subst f5_))
        obtain ⟨Ao47,co47,eo47⟩:=Kd.R_slice HO311.out
        (first | subst eo47 | (injection eo47 with f1_ f2_ f3_; have f4_:=f1_.symm; have f5_:=f3_.symm; clear f1_ f2_ f3_; subst f4_; subst f5_))
        refine hK.out _ _ ⟨(zAf BK297.out 0).trans rfl,(zAf BK297.out 1).trans rfl⟩ (fun hHeld => ?_)
        clear hK K
        refine norm_ (a':=?_) ?_ ?_
        rotate_left
        ·show Act.put _ (some 43) _ = _
         simp only [Act.put,List.setIfInBounds_toArray,List.set_cons_zero,List.set_cons_succ,i64_w,i32_w]
         rfl
        refine one_ (i:=6) (N:=some 44) #[true,true,true,true,true,true,true,false,false,false,false,false,false,false,false,false,false,false] rfl rfl (one_of HT_.out (by kernel_rfl)) (by decide) (fun K hK => ?_)
        refine goes_ Try.func23 (by kernel_rfl) rfl #[.slice Ao46 t306.length co46,.slice Ao47 t309.length co47] (by rfl) rfl rfl (by (try simp only [List.map_toArray,List.map_cons,List.map_nil]); first | done | rfl | (simp only [List.length_drop,List.length_take]; rfl)) ?_
        with_reducible refine (zAB.calls kj10 _ _ t306 _ _ t309 true _ ?side1 ?side2 ?side3 ?side4 A38.out).mono ?_
        (case side1 => repeat (first | exact (Kd.zAV HO308.out).2.2 | (with_reducible refine Kd.C_alloc ?_ _) | (with_reducible refine Kd.C_drewN ?_ _) | (with_reducible refine Kd.C_drew ?_)))
        (case side2 => exact (Kd.zAV HO308.out).2.1)
        (case side3 => repeat (first | exact (Kd.zAV HO311.out).2.2 | (with_reducible refine Kd.C_alloc ?_ _) | (with_reducible refine Kd.C_drewN ?_ _) | (with_reducible refine Kd.C_drew ?_)))
        (case side4 => exact (Kd.zAV HO311.out).2.1)
        rintro e w' ⟨rfl,⟨nd,rfl⟩⟩
        refine ⟨_,rfl,?_⟩
        refine hK.out _ _ ⟨(zAf BK297.out 0).trans rfl,(zAf BK297.out 1).trans rfl⟩ (fun hHeld => ?_)
        clear hK K
        refine norm_ (a':=?_) ?_ ?_
        rotate_left
        ·show Act.put _ (some 44) _ = _
         simp only [Act.put,List.setIfInBounds_toArray,List.set_cons_zero,List.set_cons_succ,i64_w,i32_w]
         rfl
        refine pure_ (i:=7) (N:=some 45) (v:=?_) (a':=?_) #[true,true,true,true,true,true,true,true,false,false,false,false,false,false,false,false,false,false] rfl rfl (any_of HT_.out (by kernel_rfl)) (fun _ _ _ h => h) (Or.inl ⟨by rfl,?_⟩) ?_ ?_
        rotate_left
        ·intro w'
         go_simp
         with_reducible rfl
        rotate_left
        ·simp only [Act.put,List.setIfInBounds_toArray,List.set_cons_zero,List.set_cons_succ,i64_w,i32_w]
         rfl
        refine pure_ (i:=8) (N:=some 46) (v:=?_) (a':=?_) #[true,true,true,true,true,true,true,true,true,false,false,false,false,false,false,false,false,false] rfl rfl (any_of HT_.out (by kernel_rfl)) (fun _ _ _ h => h) (Or.inl ⟨by rfl,?_⟩) ?_ ?_
        rotate_left
        ·intro w'
         go_simp
         with_reducible rfl
        rotate_left
        ·simp only [Act.put,List.setIfInBounds_toArray,List.set_cons_zero,List.set_cons_succ,i64_w,i32_w]
         rfl
        refine pure_ (i:=10) (N:=some 48) (v:=?_) (a':=?_) #[true,true,true,true,true,true,true,true,true,false,true,false,false,false,false,false,false,false] rfl rfl (any_of HT_.out (by kernel_rfl)) (fun _ _ _ h => h) (Or.inl ⟨by rfl,?_⟩) ?_ ?_
        rotate_left
        ·intro w'
         go_simp
         with_reducible rfl
        rotate_left
        ·simp only [Act.put,List.setIfInBounds_toArray,List.set_cons_zero,List.set_cons_succ,i64_w,i32_w]
         rfl
        refine pure_ (i:=13) (N:=some 51) (v:=?_) (a':=?_) #[true,true,true,true,true,true,true,true,true,false,true,false,false,true,false,false,false,false] rfl rfl (any_of HT_.out (by kernel_rfl)) (fun _ _ _ h => h) (Or.inl ⟨by rfl,?_⟩) ?_ ?_
        rotate_left
        ·intro w'
         go_simp
         with_reducible rfl
        rotate_left
        ·simp only [Act.put,List.setIfInBounds_toArray,List.set_cons_zero,List.set_cons_succ,i64_w,i32_w]
         rfl
        refine take_ (i:=9) (N:=some 47) (v:=?_) (a':=?_) #[true,true,true,true,true,true,true,true,true,true,true,false,false,true,false,false,false,false] rfl rfl (zBb HT_.out HW_.out (by kernel_rfl)) (fun _ _ _ h => h) (Or.inl ⟨by rfl,?_⟩) hHeld ?_ ?_
        rotate_left
        ·rintro w' ⟨s0,s1⟩
         go_simp
         with_reducible rfl
        rotate_left
        ·simp only [Act.put,List.setIfInBounds_toArray,List.set_cons_zero,List.set_cons_succ,i64_w,i32_w]
         rfl
        refine take_ (i:=12) (N:=some 50) (v:=?_) (a':=?_) #[true,true,true,true,true,true,true,true,true,true,true,false,true,true,false,false,false,false] rfl rfl (zBb HT_.out HW_.out (by kernel_rfl)) (fun _ _ _ h => h) (Or.inl ⟨by rfl,?_⟩) hHeld ?_ ?_
        rotate_left
        ·rintro w' ⟨s0,s1⟩
         go_simp
         with_reducible rfl
        rotate_left
        ·simp only [Act.put,List.setIfInBounds_toArray,List.set_cons_zero,List.set_cons_succ,i64_w,i32_w]
         rfl
        refine one_ (i:=11) (N:=some 49) #[true,true,true,true,true,true,true,true,true,true,true,true,true,true,false,false,false,false] rfl rfl (one_of HT_.out (by kernel_rfl)) (by decide) (fun K hK => ?_)
        refine goes_ Try.func16 (by kernel_rfl) rfl #[.agg #[.slice A0_0 l0_0.length c0_0,.int .i64 a0_1],.int .i64 a1] (by rfl) rfl rfl (by (try simp only [List.map_toArray,List.map_cons,List.map_nil]); first | done | rfl | (simp only [List.length_drop,List.length_take]; rfl)) ?_
        with_reducible refine (zAK.calls kj10 _ _ l0_0 a0_1 a1 t313 t316 _ ?side1 ?side2 A40.out).mono ?_
        (case side1 => repeat (first | exact (Kd.C_below HR0_0.out (by repeat (first | (with_reducible first | exact HB.out | apply zAg | apply zAc | apply zAi | refine zAh ?_ GE297.out) | exact HB.out))) | (with_reducible refine Kd.C_alloc ?_ _) | (with_reducible refine Kd.C_drewN ?_ _) | (with_reducible refine Kd.C_drew ?_)))
        (case side2 => exact HC0_0.out)
        rintro e w48 ⟨v314,rfl,ho0,hb⟩
        refine ⟨_,rfl,?_⟩
        have n0_:=Aside0.mk (Kd.R_below (by (with_reducible repeat (first | apply Kd.R_alloc | apply Kd.R_drewN | apply Kd.R_drew)); exact HO308.out) hb)
        have n1_:=Aside0.mk (Kd.R_below (by (with_reducible repeat (first | apply Kd.R_alloc | apply Kd.R_drewN | apply Kd.R_drew)); exact HO311.out) hb)
        have n2_:=Aside0.mk (Kd.S_lower (Kd.S_new' (Kd.S_new' ho0 (Kd.R_lt (by (with_reducible repeat (first | apply Kd.R_alloc | apply Kd.R_drewN | apply Kd.R_drew)); exact HO308.out))) (Kd.R_lt (by (with_reducible repeat (first | apply Kd.R_alloc | apply Kd.R_drewN | apply Kd.R_drew)); exact HO311.out))) (zAp (by repeat (first | (with_reducible first | exact HB.out | apply zAg | apply zAc | apply zAi | refine zAh ?_ GE297.out) | exact HB.out))))
        have n3_:=Aside0.mk (zAs (g:=w.heap.size) (o:=.cells #[.slice A0_0 l0_0.length c0_0,.int .i64 a0_1] 30 (0,0)) (by (with_reducible repeat (first | apply zAb | apply zAd | apply zAa)); exact BK297.out) hb)
        have n4_:=Aside0.mk (zAm (by repeat (first | (with_reducible first | exact HB.out | apply zAg | apply zAc | apply zAi | refine zAh ?_ GE297.out) | exact HB.out)) hb)
        clear HO308
        clear HO311
        clear BK297
        clear HB
        have HO308:=n0_
        have HO311:=n1_
        have HO315:=n2_
        have BK297:=n3_
        have HB:=n4_
        clear n0_ n1_ n2_ n3_ n4_
        (try clear hb)
        (try clear hb2)
        (try clear hk)
        (try clear hi)
        (try clear ho0)
        refine hK.out _ _ ⟨(zAf BK297.out 0).trans rfl,(zAf BK297.out 1).trans rfl⟩ (fun hHeld => ?_)
        clear hK K
        refine norm_ (a':=?_) ?_ ?_
        rotate_left
        ·show Act.put _ (some 49) _ = _
         simp only [Act.put,List.setIfInBounds_toArray,List.set_cons_zero,List.set_cons_succ,i64_w,i32_w]
         rfl
        refine one_ (i:=14) (N:=some 52) #[true,true,true,true,true,true,true,true,true,true,true,true,true,true,true,false,false,false] rfl rfl (one_of HT_.out (by kernel_rfl)) (by decide) (fun K hK => ?_)
        refine goes_ Try.func25 (by kernel_rfl) rfl #[.agg #[.slice A0_0 l0_0.length c0_0,.int .i64 a0_1],.int .i64 a1] (by rfl) rfl rfl (by (try simp only [List.map_toArray,List.map_cons,List.map_nil]); first | done | rfl | (simp only [List.length_drop,List.length_take]; rfl)) ?_
        with_reducible refine (zAx.calls kj10 _ _ l0_0 a0_1 a1 t317 t320 _ ?side1 ?side2 A41.out).mono ?_
        (case side1 => repeat (first | exact (Kd.C_below HR0_0.out HB.out) | (with_reducible refine Kd.C_alloc ?_ _) | (with_reducible refine Kd.C_drewN ?_ _) | (with_reducible refine Kd.C_drew ?_)))
        (case side2 => exact HC0_0.out)
        rintro e w49 ⟨v318,rfl,ho0,hb⟩
        refine ⟨_,rfl,?_⟩
        have n0_:=Aside0.mk (Kd.R_below (by (with_reducible repeat (first | apply Kd.R_alloc | apply Kd.R_drewN | apply Kd.R_drew)); exact HO308.out) hb)
        have n1_:=Aside0.mk (Kd.R_below (by (with_reducible repeat (first | apply Kd.R_alloc | apply Kd.R_drewN | apply Kd.R_drew)); exact HO311.out) hb)
        have n2_:=Aside0.mk (Kd.zCC (by (with_reducible repeat (first | apply Kd.S_alloc | apply Kd.S_drewN | apply Kd.S_drew)); exact HO315.out) (Kd.S_base ho0) hb)
        have n3_:=Aside0.mk (Kd.S_lower (Kd.S_new' (Kd.S_new' (Kd.S_new' ho0 (Kd.R_lt (by (with_reducible repeat (first | apply Kd.R_alloc | apply Kd.R_drewN | apply Kd.R_drew)); exact HO308.out))) (Kd.R_lt (by (with_reducible repeat (first | apply Kd.R_alloc | apply Kd.R_drewN | apply Kd.R_drew)); exact HO311.out))) (Kd.S_lt (by (with_reducible repeat (first | apply Kd.S_alloc | apply Kd.S_drewN | apply Kd.S_drew)); exact HO315.out))) (zAp (by repeat (first | (with_reducible first | exact HB.out | apply zAg | apply zAc | apply zAi | refine zAh ?_ GE297.out) | exact HB.out))))
        have n4_:=Aside0.mk (zAs (g:=w.heap.size) (o:=.cells #[.slice A0_0 l0_0.length c0_0,.int .i64 a0_1] 30 (0,0)) (by (with_reducible repeat (first | apply zAb | apply zAd | apply zAa)); exact BK297.out) hb)
        have n5_:=Aside0.mk (zAm (by repeat (first | (with_reducible first | exact HB.out | apply zAg | apply zAc | apply zAi | refine zAh ?_ GE297.out) | exact HB.out)) hb)
        clear HO308
        clear HO311
        clear HO315
        clear BK297
        clear HB
        have HO308:=n0_
        have HO311:=n1_
        have HO315:=n2_
        have HO319:=n3_
        have BK297:=n4_
        have HB:=n5_
        clear n0_ n1_ n2_ n3_ n4_ n5_
        (try clear hb)
        (try clear hb2)
        (try clear hk)
        (try clear hi)
        (try clear ho0)
        obtain ⟨Ao50,co50,eo50⟩:=Kd.S_slice HO315.out
        (first | subst eo50 | (injection eo50 with f1_ f2_ f3_; have f4_:=f1_.symm; have f5_:=f3_.symm; clear f1_ f2_ f3_; subst f4_; subst f5_))
        obtain ⟨Ao51,co51,eo51⟩:=Kd.S_slice HO319.out
        (first | subst eo51 | (injection eo51 with f1_ f2_ f3_; have f4_:=f1_.symm; have f5_:=f3_.symm; clear f1_ f2_ f3_; subst f4_; subst f5_))
        refine hK.out _ _ ⟨(zAf BK297.out 0).trans rfl,(zAf BK297.out 1).trans rfl⟩ (fun hHeld => ?_)
        clear hK K
        refine norm_ (a':=?_) ?_ ?_
        rotate_left
        ·show Act.put _ (some 52) _ = _
         simp only [Act.put,List.setIfInBounds_toArray,List.set_cons_zero,List.set_cons_succ,i64_w,i32_w]
         rfl
        refine one_ (i:=15) (N:=some 53) #[true,true,true,true,true,true,true,true,true,true,true,true,true,true,true,true,false,false] rfl rfl (one_of HT_.out (by kernel_rfl)) (by decide) (fun K hK => ?_)
        refine goes_ Try.func12 (by kernel_rfl) rfl #[.agg #[.slice Ao50 t313.length co50,.int .i64 t316],.agg #[.slice Ao51 t317.length co51,.int .i64 t320]] (by rfl) rfl rfl (by (try simp only [List.map_toArray,List.map_cons,List.map_nil]); first | done | rfl | (simp only [List.length_drop,List.length_take]; rfl)) ?_
        with_reducible refine (zAC.calls kj10 _ _ t313 t316 _ _ t317 t320 t321 _ ?side1 ?side2 ?side3 ?side4 A42.out).mono ?_
        (case side1 => repeat (first | exact (Kd.zCr HO315.out).2.2 | (with_reducible refine Kd.C_alloc ?_ _) | (with_reducible refine Kd.C_drewN ?_ _) | (with_reducible refine Kd.C_drew ?_)))
        (case side2 => exact (Kd.zCr HO315.out).2.1)
        (case side3 => repeat (first | exact (Kd.zCr HO319.out).2.2 | (with_reducible refine Kd.C_alloc ?_ _) | (with_reducible refine Kd.C_drewN ?_ _) | (with_reducible refine Kd.C_drew ?_)))
        (case side4 => exact (Kd.zCr HO319.out).2.1)
        rintro e w52 ⟨rfl,hb⟩
        refine ⟨_,rfl,?_⟩
        have n0_:=Aside0.mk (Kd.R_below (by (with_reducible repeat (first | apply Kd.R_alloc | apply Kd.R_drewN | apply Kd.R_drew)); exact HO308.out) hb)
        have n1_:=Aside0.mk (Kd.R_below (by (with_reducible repeat (first | apply Kd.R_alloc | apply Kd.R_drewN | apply Kd.R_drew)); exact HO311.out) hb)
        have n2_:=Aside0.mk (Kd.S_below (by (with_reducible repeat (first | apply Kd.S_alloc | apply Kd.S_drewN | apply Kd.S_drew)); exact HO315.out) hb)
        have n3_:=Aside0.mk (Kd.S_below (by (with_reducible repeat (first | apply Kd.S_alloc | apply Kd.S_drewN | apply Kd.S_drew)); exact HO319.out) hb)
        have n4_:=Aside0.mk (zAs (g:=w.heap.size) (o:=.cells #[.slice A0_0 l0_0.length c0_0,.int .i64 a0_1] 30 (0,0)) (by (with_reducible repeat (first | apply zAb | apply zAd | apply zAa)); exact BK297.out) hb)
        have n5_:=Aside0.mk (zAm (by repeat (first | (with_reducible first | exact HB.out | apply zAg | apply zAc | apply zAi | refine zAh ?_ GE297.out) | exact HB.out)) hb)
        clear HO308
        clear HO311
        clear HO315
        clear HO319
        clear BK297
        clear HB
        have HO308:=n0_
        have HO311:=n1_
        have HO315:=n2_
        have HO319:=n3_
        have BK297:=n4_
        have HB:=n5_
        clear n0_ n1_ n2_ n3_ n4_ n5_
        (try clear hb)
        (try clear hb2)
        (try clear hk)
        (try clear hi)
        refine hK.out _ _ ⟨(zAf BK297.out 0).trans rfl,(zAf BK297.out 1).trans rfl⟩ (fun hHeld => ?_)
        clear hK K
        refine norm_ (a':=?_) ?_ ?_
        rotate_left
        ·show Act.put _ (some 53) _ = _
         simp only [Act.put,List.setIfInBounds_toArray,List.set_cons_zero,List.set_cons_succ,i64_w,i32_w]
         rfl
        refine pure_ (i:=16) (N:=some 54) (v:=?_) (a':=?_) #[true,true,true,true,true,true,true,true,true,true,true,true,true,true,true,true,true,false] rfl rfl (any_of HT_.out (by kernel_rfl)) (fun _ _ _ h => h) (Or.inl ⟨by rfl,?_⟩) ?_ ?_
        rotate_left
        ·intro w'
         go_simp
         with_reducible rfl
        rotate_left
        ·simp only [Act.put,List.setIfInBounds_toArray,List.set_cons_zero,List.set_cons_succ,i64_w,i32_w]
         rfl
        refine pure_ (i:=17) (N:=some 4) (v:=?_) (a':=?_) #[true,true,true,true,true,true,true,true,true,true,true,true,true,true,true,true,true,true] rfl rfl (any_of HT_.out (by kernel_rfl)) (fun _ _ _ h => h) (Or.inl ⟨by rfl,?_⟩) ?_ ?_
        rotate_left
        ·intro w'
         go_simp
         with_reducible rfl
        rotate_left
        ·simp only [Act.put,List.setIfInBounds_toArray,List.set_cons_zero,List.set_cons_succ,i64_w,i32_w]
         rfl
        refine done_ (done_of HT_.out (by kernel_rfl)) ?_
        try go_wp2
        go_ret
        exact ⟨by first | rfl | (simp [zAo,zAn] <;> rfl) | (simp [*,zAo,zAn] <;> rfl),by repeat (first | (with_reducible first | exact HB.out | apply zAg | apply zAc | apply zAi | refine zAh ?_ GE297.out) | exact HB.out)⟩
       ·replace c39:=Bool.eq_false_iff.mpr c39
        subst c39
        have H1 : (some false) = some r:=by rw [if_neg (show ¬ (false = true) by decide)] at H; exact H
        clear H
        have H:=H1
        clear H1
        obtain rfl:=Option.some.inj H
        try go_wp2
        have n0_:=Aside0.mk (zAd BK297.out)
        have n1_:=Aside0.mk (zAi HB.out)
        clear BK297
        clear HB
        have BK297:=n0_
        have HB:=n1_
        clear n0_ n1_
        refine start_ (n:=18) (S:=fun w' => w'.cell? ⟨w.heap.size,0,none⟩ = some (.slice A0_0 l0_0.length c0_0) ∧ w'.cell? ⟨w.heap.size,1,none⟩ = some (.int .i64 a0_1)) (ds:=[]) #[false,false,false,false,false,false,false,false,false,false,false,false,false,false,false,false,false,false] (by kernel_rfl) rfl rfl ⟨(zAf BK297.out 0).trans rfl,(zAf BK297.out 1).trans rfl⟩ (fun hHeld => ?_); refine zBs zAl.tab6 zAl.bits6 (fun HT_ HW_ => ?_)
        generalize wc.drew = w53 at BK297 HB hHeld ⊢
        refine pure_ (i:=0) (N:=some 38) (v:=?_) (a':=?_) #[true,false,false,false,false,false,false,false,false,false,false,false,false,false,false,false,false,false] rfl rfl (any_of HT_.out (by kernel_rfl)) (fun _ _ _ h => h) (Or.inl ⟨by rfl,?_⟩) ?_ ?_
        rotate_left
        ·intro w'
         go_simp
         with_reducible rfl
        rotate_left
        ·simp only [Act.put,List.setIfInBounds_toArray,List.set_cons_zero,List.set_cons_succ,i64_w,i32_w]
         rfl
        refine pure_ (i:=1) (N:=some 39) (v:=?_) (a':=?_) #[true,true,false,false,false,false,false,false,false,false,false,false,false,false,false,false,false,false] rfl rfl (any_of HT_.out (by kernel_rfl)) (fun _ _ _ h => h) (Or.inl ⟨by rfl,?_⟩) ?_ ?_
        rotate_left
        ·intro w'
         go_simp
         with_reducible rfl
        rotate_left
        ·simp only [Act.put,List.setIfInBounds_toArray,List.set_cons_zero,List.set_cons_succ,i64_w,i32_w]
         rfl
        refine take_ (i:=2) (N:=some 40) (v:=?_) (a':=?_) #[true,true,true,false,false,false,false,false,false,false,false,false,false,false,false,false,false,false] rfl rfl (zBb HT_.out HW_.out (by kernel_rfl)) (fun _ _ _ h => h) (Or.inl ⟨by rfl,?_⟩) hHeld ?_ ?_
        rotate_left
        ·rintro w' ⟨s0,s1⟩
         go_simp
         with_reducible rfl
        rotate_left
        ·simp only [Act.put,List.setIfInBounds_toArray,List.set_cons_zero,List.set_cons_succ,i64_w,i32_w]
         rfl
        refine take_ (i:=4) (N:=some 42) (v:=?_) (a':=?_) #[true,true,true,false,true,false,false,false,false,false,false,false,false,false,false,false,false,false] rfl rfl (zBb HT_.out HW_.out (by kernel_rfl)) (fun _ _ _ h => h) (Or.inl ⟨by rfl,?_⟩) hHeld ?_ ?_
        rotate_left
        ·rintro w' ⟨s0,s1⟩
         go_simp
         with_reducible rfl
        rotate_left
        ·simp only [Act.put,List.setIfInBounds_toArray,List.set_cons_zero,List.set_cons_succ,i64_w,i32_w]
         rfl
        refine one_ (i:=3) (N:=some 41) #[true,true,true,true,true,false,false,false,false,false,false,false,false,false,false,false,false,false] rfl rfl (one_of HT_.out (by kernel_rfl)) (by decide) (fun K hK => ?_)
        refine goes_ Try.func18 (by kernel_rfl) rfl #[.agg #[.slice A0_0 l0_0.length c0_0,.int .i64 a0_1]] (by rfl) rfl rfl (by (try simp only [List.map_toArray,List.map_cons,List.map_nil]); first | done | rfl | (simp only [List.length_drop,List.length_take]; rfl)) ?_
        with_reducible refine (zAF.calls kj10 _ _ l0_0 a0_1 t306 _ ?side1 ?side2 A36.out).mono ?_
        (case side1 => repeat (first | exact (Kd.C_below HR0_0.out HB.out) | (with_reducible refine Kd.C_alloc ?_ _) | (with_reducible refine Kd.C_drewN ?_ _) | (with_reducible refine Kd.C_drew ?_)))
        (case side2 => exact HC0_0.out)
        rintro e w54 ⟨v307,rfl,ho0,hb⟩
        refine ⟨_,rfl,?_⟩
        have n0_:=Aside0.mk (Kd.R_lower ho0 (zAp (by repeat (first | (with_reducible first | exact HB.out | apply zAg | apply zAc | apply zAi | refine zAh ?_ GE297.out) | exact HB.out))))
        have n1_:=Aside0.mk (zAs (g:=w.heap.size) (o:=.cells #[.slice A0_0 l0_0.length c0_0,.int .i64 a0_1] 30 (0,0)) (by (with_reducible repeat (first | apply zAb | apply zAd | apply zAa)); exact BK297.out) hb)
        have n2_:=Aside0.mk (zAm (by repeat (first | (with_reducible first | exact HB.out | apply zAg | apply zAc | apply zAi | refine zAh ?_ GE297.out) | exact HB.out)) hb)
        clear BK297
        clear HB
        have HO308:=n0_
        have BK297:=n1_
        have HB:=n2_
        clear n0_ n1_ n2_
        (try clear hb)
        (try clear hb2)
        (try clear hk)
        (try clear hi)
        (try clear ho0)
        refine hK.out _ _ ⟨(zAf BK297.out 0).trans rfl,(zAf BK297.out 1).trans rfl⟩ (fun hHeld => ?_)
        clear hK K
        refine norm_ (a':=?_) ?_ ?_
        rotate_left
        ·show Act.put _ (some 41) _ = _
         simp only [Act.put,List.setIfInBounds_toArray,List.set_cons_zero,List.set_cons_succ,i64_w,i32_w]
         rfl
        refine one_ (i:=5) (N:=some 43) #[true,true,true,true,true,true,false,false,false,false,false,false,false,false,false,false,false,false] rfl rfl (one_of HT_.out (by kernel_rfl)) (by decide) (fun K hK => ?_)
        refine goes_ Try.func24 (by kernel_rfl) rfl #[.agg #[.slice A0_0 l0_0.length c0_0,.int .i64 a0_1]] (by rfl) rfl rfl (by (try simp only [List.map_toArray,List.map_cons,List.map_nil]); first | done | rfl | (simp only [List.length_drop,List.length_take]; rfl)) ?_
        with_reducible refine (zAy.calls kj10 _ _ l0_0 a0_1 t309 _ ?side1 ?side2 A37.out).mono ?_
        (case side1 => repeat (first | exact (Kd.C_below HR0_0.out HB.out) | (with_reducible refine Kd.C_alloc ?_ _) | (with_reducible refine Kd.C_drewN ?_ _) | (with_reducible refine Kd.C_drew ?_)))
        (case side2 => exact HC0_0.out)
        rintro e w55 ⟨v310,rfl,ho0,hb⟩
        refine ⟨_,rfl,?_⟩
        have n0_:=Aside0.mk (Kd.zCq (by (with_reducible repeat (first | apply Kd.R_alloc | apply Kd.R_drewN | apply Kd.R_drew)); exact HO308.out) (Kd.R_base ho0) hb)
        have n1_:=Aside0.mk (Kd.R_lower (Kd.R_new' ho0 (Kd.R_lt (by (with_reducible repeat (first | apply Kd.R_alloc | apply Kd.R_drewN | apply Kd.R_drew)); exact HO308.out))) (zAp (by repeat (first | (with_reducible first | exact HB.out | apply zAg | apply zAc | apply zAi | refine zAh ?_ GE297.out) | exact HB.out))))
        have n2_:=Aside0.mk (zAs (g:=w.heap.size) (o:=.cells #[.slice A0_0 l0_0.length c0_0,.int .i64 a0_1] 30 (0,0)) (by (with_reducible repeat (first | apply zAb | apply zAd | apply zAa)); exact BK297.out) hb)
        have n3_:=Aside0.mk (zAm (by repeat (first | (with_reducible first | exact HB.out | apply zAg | apply zAc | apply zAi | refine zAh ?_ GE297.out) | exact HB.out)) hb)
        clear HO308
        clear BK297
        clear HB
        have HO308:=n0_
        have HO311:=n1_
        have BK297:=n2_
        have HB:=n3_
        clear n0_ n1_ n2_ n3_
        (try clear hb)
        (try clear hb2)
        (try clear hk)
        (try clear hi)
        (try clear ho0)
        obtain ⟨Ao56,co56,eo56⟩:=Kd.R_slice HO308.out
        (first | subst eo56 | (injection eo56 with f1_ f2_ f3_; have f4_:=f1_.symm; have f5_:=f3_.symm; clear f1_ f2_ f3_; subst f4_; subst f5_))
        obtain ⟨Ao57,co57,eo57⟩:=Kd.R_slice HO311.out
        (first | subst eo57 | (injection eo57 with f1_ f2_ f3_; have f4_:=f1_.symm; have f5_:=f3_.symm; clear f1_ f2_ f3_; subst f4_; subst f5_))
        refine hK.out _ _ ⟨(zAf BK297.out 0).trans rfl,(zAf BK297.out 1).trans rfl⟩ (fun hHeld => ?_)
        clear hK K
        refine norm_ (a':=?_) ?_ ?_
        rotate_left
        ·show Act.put _ (some 43) _ = _
         simp only [Act.put,List.setIfInBounds_toArray,List.set_cons_zero,List.set_cons_succ,i64_w,i32_w]
         rfl
        refine one_ (i:=6) (N:=some 44) #[true,true,true,true,true,true,true,false,false,false,false,false,false,false,false,false,false,false] rfl rfl (one_of HT_.out (by kernel_rfl)) (by decide) (fun K hK => ?_)
        refine goes_ Try.func23 (by kernel_rfl) rfl #[.slice Ao56 t306.length co56,.slice Ao57 t309.length co57] (by rfl) rfl rfl (by (try simp only [List.map_toArray,List.map_cons,List.map_nil]); first | done | rfl | (simp only [List.length_drop,List.length_take]; rfl)) ?_
        with_reducible refine (zAB.calls kj10 _ _ t306 _ _ t309 false _ ?side1 ?side2 ?side3 ?side4 A38.out).mono ?_
        (case side1 => repeat (first | exact (Kd.zAV HO308.out).2.2 | (with_reducible refine Kd.C_alloc ?_ _) | (with_reducible refine Kd.C_drewN ?_ _) | (with_reducible refine Kd.C_drew ?_)))
        (case side2 => exact (Kd.zAV HO308.out).2.1)
        (case side3 => repeat (first | exact (Kd.zAV HO311.out).2.2 | (with_reducible refine Kd.C_alloc ?_ _) | (with_reducible refine Kd.C_drewN ?_ _) | (with_reducible refine Kd.C_drew ?_)))
        (case side4 => exact (Kd.zAV HO311.out).2.1)
        rintro e w' ⟨rfl,⟨nd,rfl⟩⟩
        refine ⟨_,rfl,?_⟩
        refine hK.out _ _ ⟨(zAf BK297.out 0).trans rfl,(zAf BK297.out 1).trans rfl⟩ (fun hHeld => ?_)
        clear hK K
        refine norm_ (a':=?_) ?_ ?_
        rotate_left
        ·show Act.put _ (some 44) _ = _
         simp only [Act.put,List.setIfInBounds_toArray,List.set_cons_zero,List.set_cons_succ,i64_w,i32_w]
         rfl
        refine pure_ (i:=7) (N:=some 45) (v:=?_) (a':=?_) #[true,true,true,true,true,true,true,true,false,false,false,false,false,false,false,false,false,false] rfl rfl (any_of HT_.out (by kernel_rfl)) (fun _ _ _ h => h) (Or.inl ⟨by rfl,?_⟩) ?_ ?_
        rotate_left
        ·intro w'
         go_simp
         with_reducible rfl
        rotate_left
        ·simp only [Act.put,List.setIfInBounds_toArray,List.set_cons_zero,List.set_cons_succ,i64_w,i32_w]
         rfl
        refine pure_ (i:=8) (N:=some 46) (v:=?_) (a':=?_) #[true,true,true,true,true,true,true,true,true,false,false,false,false,false,false,false,false,false] rfl rfl (any_of HT_.out (by kernel_rfl)) (fun _ _ _ h => h) (Or.inl ⟨by rfl,?_⟩) ?_ ?_
        rotate_left
        ·intro w'
         go_simp
         with_reducible rfl
        rotate_left
        ·simp only [Act.put,List.setIfInBounds_toArray,List.set_cons_zero,List.set_cons_succ,i64_w,i32_w]
         rfl
        refine pure_ (i:=9) (N:=some 47) (v:=undef) (a':=?_) #[true,true,true,true,true,true,true,true,true,true,false,false,false,false,false,false,false,false] rfl rfl (any_of HT_.out (by kernel_rfl)) (fun _ _ _ h => h) (Or.inr ⟨by rfl,rfl⟩) ?_ ?_
        rotate_left
        ·simp only [Act.put,List.setIfInBounds_toArray,List.set_cons_zero,List.set_cons_succ,i64_w,i32_w]
         rfl
        refine pure_ (i:=10) (N:=some 48) (v:=undef) (a':=?_) #[true,true,true,true,true,true,true,true,true,true,true,false,false,false,false,false,false,false] rfl rfl (any_of HT_.out (by kernel_rfl)) (fun _ _ _ h => h) (Or.inr ⟨by rfl,rfl⟩) ?_ ?_
        rotate_left
        ·simp only [Act.put,List.setIfInBounds_toArray,List.set_cons_zero,List.set_cons_succ,i64_w,i32_w]
         rfl
        refine pure_ (i:=11) (N:=some 49) (v:=undef) (a':=?_) #[true,true,true,true,true,true,true,true,true,true,true,true,false,false,false,false,false,false] rfl rfl (any_of HT_.out (by kernel_rfl)) (fun _ _ _ h => h) (Or.inr ⟨by rfl,rfl⟩) ?_ ?_
        rotate_left
        ·simp only [Act.put,List.setIfInBounds_toArray,List.set_cons_zero,List.set_cons_succ,i64_w,i32_w]
         rfl
        refine pure_ (i:=12) (N:=some 50) (v:=undef) (a':=?_) #[true,true,true,true,true,true,true,true,true,true,true,true,true,false,false,false,false,false] rfl rfl (any_of HT_.out (by kernel_rfl)) (fun _ _ _ h => h) (Or.inr ⟨by rfl,rfl⟩) ?_ ?_
        rotate_left
        ·simp only [Act.put,List.setIfInBounds_toArray,List.set_cons_zero,List.set_cons_succ,i64_w,i32_w]
         rfl
        refine pure_ (i:=13) (N:=some 51) (v:=undef) (a':=?_) #[true,true,true,true,true,true,true,true,true,true,true,true,true,true,false,false,false,false] rfl rfl (any_of HT_.out (by kernel_rfl)) (fun _ _ _ h => h) (Or.inr ⟨by rfl,rfl⟩) ?_ ?_
        rotate_left
        ·simp only [Act.put,List.setIfInBounds_toArray,List.set_cons_zero,List.set_cons_succ,i64_w,i32_w]
         rfl
        refine pure_ (i:=14) (N:=some 52) (v:=undef) (a':=?_) #[true,true,true,true,true,true,true,true,true,true,true,true,true,true,true,false,false,false] rfl rfl (any_of HT_.out (by kernel_rfl)) (fun _ _ _ h => h) (Or.inr ⟨by rfl,rfl⟩) ?_ ?_
        rotate_left
        ·simp only [Act.put,List.setIfInBounds_toArray,List.set_cons_zero,List.set_cons_succ,i64_w,i32_w]
         rfl
        refine pure_ (i:=15) (N:=some 53) (v:=undef) (a':=?_) #[true,true,true,true,true,true,true,true,true,true,true,true,true,true,true,true,false,false] rfl rfl (any_of HT_.out (by kernel_rfl)) (fun _ _ _ h => h) (Or.inr ⟨by rfl,rfl⟩) ?_ ?_
        rotate_left
        ·simp only [Act.put,List.setIfInBounds_toArray,List.set_cons_zero,List.set_cons_succ,i64_w,i32_w]
         rfl
        refine pure_ (i:=16) (N:=some 54) (v:=?_) (a':=?_) #[true,true,true,true,true,true,true,true,true,true,true,true,true,true,true,true,true,false] rfl rfl (any_of HT_.out (by kernel_rfl)) (fun _ _ _ h => h) (Or.inl ⟨by rfl,?_⟩) ?_ ?_
        rotate_left
        ·intro w'
         go_simp
         with_reducible rfl
        rotate_left
        ·simp only [Act.put,List.setIfInBounds_toArray,List.set_cons_zero,List.set_cons_succ,i64_w,i32_w]
         rfl
        refine pure_ (i:=17) (N:=some 4) (v:=?_) (a':=?_) #[true,true,true,true,true,true,true,true,true,true,true,true,true,true,true,true,true,true] rfl rfl (any_of HT_.out (by kernel_rfl)) (fun _ _ _ h => h) (Or.inl ⟨by rfl,?_⟩) ?_ ?_
        rotate_left
        ·intro w'
         go_simp
         with_reducible rfl
        rotate_left
        ·simp only [Act.put,List.setIfInBounds_toArray,List.set_cons_zero,List.set_cons_succ,i64_w,i32_w]
         rfl
        refine done_ (done_of HT_.out (by kernel_rfl)) ?_
        try go_wp2
        go_ret
        exact ⟨by first | rfl | (simp [zAo,zAn] <;> rfl) | (simp [*,zAo,zAn] <;> rfl),by repeat (first | (with_reducible first | exact HB.out | apply zAg | apply zAc | apply zAi | refine zAh ?_ GE297.out) | exact HB.out)⟩
      ·replace c35:=Bool.eq_false_iff.mpr c35
       subst c35
       have H1 : (some false) = some r:=by rw [if_neg (show ¬ (false = true) by decide)] at H; exact H
       clear H
       have H:=H1
       clear H1
       obtain rfl:=Option.some.inj H
       try go_wp2
       have n0_:=Aside0.mk (zAd BK297.out)
       have n1_:=Aside0.mk (zAi HB.out)
       clear BK297
       clear HB
       have BK297:=n0_
       have HB:=n1_
       clear n0_ n1_
       refine start_ (n:=18) (S:=fun w' => True) (ds:=[]) #[false,false,false,false,false,false,false,false,false,false,false,false,false,false,false,false,false,false] (by kernel_rfl) rfl rfl trivial (fun hHeld => ?_); refine zBs zAl.tab6 zAl.bits6 (fun HT_ HW_ => ?_)
       generalize wc.drew = w58 at BK297 HB hHeld ⊢
       refine pure_ (i:=0) (N:=some 38) (v:=?_) (a':=?_) #[true,false,false,false,false,false,false,false,false,false,false,false,false,false,false,false,false,false] rfl rfl (any_of HT_.out (by kernel_rfl)) (fun _ _ _ h => h) (Or.inl ⟨by rfl,?_⟩) ?_ ?_
       rotate_left
       ·intro w'
        go_simp
        with_reducible rfl
       rotate_left
       ·simp only [Act.put,List.setIfInBounds_toArray,List.set_cons_zero,List.set_cons_succ,i64_w,i32_w]
        rfl
       refine pure_ (i:=1) (N:=some 39) (v:=?_) (a':=?_) #[true,true,false,false,false,false,false,false,false,false,false,false,false,false,false,false,false,false] rfl rfl (any_of HT_.out (by kernel_rfl)) (fun _ _ _ h => h) (Or.inl ⟨by rfl,?_⟩) ?_ ?_
       rotate_left
       ·intro w'
        go_simp
        with_reducible rfl
       rotate_left
       ·simp only [Act.put,List.setIfInBounds_toArray,List.set_cons_zero,List.set_cons_succ,i64_w,i32_w]
        rfl
       refine pure_ (i:=2) (N:=some 40) (v:=undef) (a':=?_) #[true,true,true,false,false,false,false,false,false,false,false,false,false,false,false,false,false,false] rfl rfl (any_of HT_.out (by kernel_rfl)) (fun _ _ _ h => h) (Or.inr ⟨by rfl,rfl⟩) ?_ ?_
       rotate_left
       ·simp only [Act.put,List.setIfInBounds_toArray,List.set_cons_zero,List.set_cons_succ,i64_w,i32_w]
        rfl
       refine pure_ (i:=3) (N:=some 41) (v:=undef) (a':=?_) #[true,true,true,true,false,false,false,false,false,false,false,false,false,false,false,false,false,false] rfl rfl (any_of HT_.out (by kernel_rfl)) (fun _ _ _ h => h) (Or.inr ⟨by rfl,rfl⟩) ?_ ?_
       rotate_left
       ·simp only [Act.put,List.setIfInBounds_toArray,List.set_cons_zero,List.set_cons_succ,i64_w,i32_w]
        rfl
       refine pure_ (i:=4) (N:=some 42) (v:=undef) (a':=?_) #[true,true,true,true,true,false,false,false,false,false,false,false,false,false,false,false,false,false] rfl rfl (any_of HT_.out (by kernel_rfl)) (fun _ _ _ h => h) (Or.inr ⟨by rfl,rfl⟩) ?_ ?_
       rotate_left
       ·simp only [Act.put,List.setIfInBounds_toArray,List.set_cons_zero,List.set_cons_succ,i64_w,i32_w]
        rfl
       refine pure_ (i:=5) (N:=some 43) (v:=undef) (a':=?_) #[true,true,true,true,true,true,false,false,false,false,false,false,false,false,false,false,false,false] rfl rfl (any_of HT_.out (by kernel_rfl)) (fun _ _ _ h => h) (Or.inr ⟨by rfl,rfl⟩) ?_ ?_
       rotate_left
       ·simp only [Act.put,List.setIfInBounds_toArray,List.set_cons_zero,List.set_cons_succ,i64_w,i32_w]
        rfl
       refine pure_ (i:=6) (N:=some 44) (v:=undef) (a':=?_) #[true,true,true,true,true,true,true,false,false,false,false,false,false,false,false,false,false,false] rfl rfl (any_of HT_.out (by kernel_rfl)) (fun _ _ _ h => h) (Or.inr ⟨by rfl,rfl⟩) ?_ ?_
       rotate_left
       ·simp only [Act.put,List.setIfInBounds_toArray,List.set_cons_zero,List.set_cons_succ,i64_w,i32_w]
        rfl
       refine pure_ (i:=7) (N:=some 45) (v:=?_) (a':=?_) #[true,true,true,true,true,true,true,true,false,false,false,false,false,false,false,false,false,false] rfl rfl (any_of HT_.out (by kernel_rfl)) (fun _ _ _ h => h) (Or.inl ⟨by rfl,?_⟩) ?_ ?_
       rotate_left
       ·intro w'
        go_simp
        with_reducible rfl
       rotate_left
       ·simp only [Act.put,List.setIfInBounds_toArray,List.set_cons_zero,List.set_cons_succ,i64_w,i32_w]
        rfl
       refine pure_ (i:=8) (N:=some 46) (v:=?_) (a':=?_) #[true,true,true,true,true,true,true,true,true,false,false,false,false,false,false,false,false,false] rfl rfl (any_of HT_.out (by kernel_rfl)) (fun _ _ _ h => h) (Or.inl ⟨by rfl,?_⟩) ?_ ?_
       rotate_left
       ·intro w'
        go_simp
        with_reducible rfl
       rotate_left
       ·simp only [Act.put,List.setIfInBounds_toArray,List.set_cons_zero,List.set_cons_succ,i64_w,i32_w]
        rfl
       refine pure_ (i:=9) (N:=some 47) (v:=undef) (a':=?_) #[true,true,true,true,true,true,true,true,true,true,false,false,false,false,false,false,false,false] rfl rfl (any_of HT_.out (by kernel_rfl)) (fun _ _ _ h => h) (Or.inr ⟨by rfl,rfl⟩) ?_ ?_
       rotate_left
       ·simp only [Act.put,List.setIfInBounds_toArray,List.set_cons_zero,List.set_cons_succ,i64_w,i32_w]
        rfl
       refine pure_ (i:=10) (N:=some 48) (v:=undef) (a':=?_) #[true,true,true,true,true,true,true,true,true,true,true,false,false,false,false,false,false,false] rfl rfl (any_of HT_.out (by kernel_rfl)) (fun _ _ _ h => h) (Or.inr ⟨by rfl,rfl⟩) ?_ ?_
       rotate_left
       ·simp only [Act.put,List.setIfInBounds_toArray,List.set_cons_zero,List.set_cons_succ,i64_w,i32_w]
        rfl
       refine pure_ (i:=11) (N:=some 49) (v:=undef) (a':=?_) #[true,true,true,true,true,true,true,true,true,true,true,true,false,false,false,false,false,false] rfl rfl (any_of HT_.out (by kernel_rfl)) (fun _ _ _ h => h) (Or.inr ⟨by rfl,rfl⟩) ?_ ?_
       rotate_left
       ·simp only [Act.put,List.setIfInBounds_toArray,List.set_cons_zero,List.set_cons_succ,i64_w,i32_w]
        rfl
       refine pure_ (i:=12) (N:=some 50) (v:=undef) (a':=?_) #[true,true,true,true,true,true,true,true,true,true,true,true,true,false,false,false,false,false] rfl rfl (any_of HT_.out (by kernel_rfl)) (fun _ _ _ h => h) (Or.inr ⟨by rfl,rfl⟩) ?_ ?_
       rotate_left
       ·simp only [Act.put,List.setIfInBounds_toArray,List.set_cons_zero,List.set_cons_succ,i64_w,i32_w]
        rfl
       refine pure_ (i:=13) (N:=some 51) (v:=undef) (a':=?_) #[true,true,true,true,true,true,true,true,true,true,true,true,true,true,false,false,false,false] rfl rfl (any_of HT_.out (by kernel_rfl)) (fun _ _ _ h => h) (Or.inr ⟨by rfl,rfl⟩) ?_ ?_
       rotate_left
       ·simp only [Act.put,List.setIfInBounds_toArray,List.set_cons_zero,List.set_cons_succ,i64_w,i32_w]
        rfl
       refine pure_ (i:=14) (N:=some 52) (v:=undef) (a':=?_) #[true,true,true,true,true,true,true,true,true,true,true,true,true,true,true,false,false,false] rfl rfl (any_of HT_.out (by kernel_rfl)) (fun _ _ _ h => h) (Or.inr ⟨by rfl,rfl⟩) ?_ ?_
       rotate_left
       ·simp only [Act.put,List.setIfInBounds_toArray,List.set_cons_zero,List.set_cons_succ,i64_w,i32_w]
        rfl
       refine pure_ (i:=15) (N:=some 53) (v:=undef) (a':=?_) #[true,true,true,true,true,true,true,true,true,true,true,true,true,true,true,true,false,false] rfl rfl (any_of HT_.out (by kernel_rfl)) (fun _ _ _ h => h) (Or.inr ⟨by rfl,rfl⟩) ?_ ?_
       rotate_left
       ·simp only [Act.put,List.setIfInBounds_toArray,List.set_cons_zero,List.set_cons_succ,i64_w,i32_w]
        rfl
       refine pure_ (i:=16) (N:=some 54) (v:=?_) (a':=?_) #[true,true,true,true,true,true,true,true,true,true,true,true,true,true,true,true,true,false] rfl rfl (any_of HT_.out (by kernel_rfl)) (fun _ _ _ h => h) (Or.inl ⟨by rfl,?_⟩) ?_ ?_
       rotate_left
       ·intro w'
        go_simp
        with_reducible rfl
       rotate_left
       ·simp only [Act.put,List.setIfInBounds_toArray,List.set_cons_zero,List.set_cons_succ,i64_w,i32_w]
        rfl
       refine pure_ (i:=17) (N:=some 4) (v:=?_) (a':=?_) #[true,true,true,true,true,true,true,true,true,true,true,true,true,true,true,true,true,true] rfl rfl (any_of HT_.out (by kernel_rfl)) (fun _ _ _ h => h) (Or.inl ⟨by rfl,?_⟩) ?_ ?_
       rotate_left
       ·intro w'
        go_simp
        with_reducible rfl
       rotate_left
       ·simp only [Act.put,List.setIfInBounds_toArray,List.set_cons_zero,List.set_cons_succ,i64_w,i32_w]
        rfl
       refine done_ (done_of HT_.out (by kernel_rfl)) ?_
       try go_wp2
       go_ret
       exact ⟨by first | rfl | (simp [zAo,zAn] <;> rfl) | (simp [*,zAo,zAn] <;> rfl),by repeat (first | (with_reducible first | exact HB.out | apply zAg | apply zAc | apply zAi | refine zAh ?_ GE297.out) | exact HB.out)⟩
end Go.Proofs.Ytpggidmpkhmijaa.P
