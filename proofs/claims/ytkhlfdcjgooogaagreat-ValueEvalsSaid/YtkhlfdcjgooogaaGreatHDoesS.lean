import Derived.Test.YtkhlfdcjgooogaaGreatWMore
import Derived.Test.YtkhlfdcjgooogaaGreatHDoesN
set_option maxRecDepth 100000
set_option maxHeartbeats 16000000
set_option linter.unusedVariables false
set_option linter.unusedSimpArgs false
set_option linter.unusedSectionVars false
namespace Go.Proofs.YtkhlfdcjgooogaaGreat.P
open Go.RowKit Go.Proofs.YtkhlfdcjgooogaaGreatW.PrintWords Go.Proofs.YtkhlfdcjgooogaaGreatW.PrintLast Go.Proofs.YtkhlfdcjgooogaaGreatW.PrintMore
theorem does_getC {w : World} {Bh Bm : Nat} {okh okm : Nat → Prop} {L M : List (List Int)} (o n a an i ii v vn : Int) {x0 x1 r0 r1 : Int} (hx : getK L a an i ii = x0 ∧ getN L a an i ii = x1 ∧ wrongF L a an i ii = r0) (hy : getK M a an i ii = x0 ∧ getN M a an i ii = x1 ∧ wrongF M a an i ii = r1) (T : Two w Bh Bm okh okm L M) (hp : zAL.f o 4 = some 1) :
  Calls Tryz.prog 6 #[.pointer (some ⟨Bh,0,none⟩),.pointer (some ⟨Bm,0,none⟩),.agg #[.int .i64 o,.int .i64 n,.int .i64 a,.int .i64 an,.int .i64 i,.int .i64 ii,.int .i64 v,.int .i64 vn]] w fun e w' => e = .returned (.bool (r0 == r1)) ∧ After w Bh Bm okh okm L M w':=by
 have HX:=Lib.hid hx
 have HY:=Lib.hid hy
 clear hx hy
 have HP:=Lib.hid hp
 have R:=Lib.hid (Run.start T)
 clear hp T
 go_enter Tryz.func6,Tryz.ntmps6
 go_wp2_with fail
 obtain ⟨a1,hw_⟩ : ∃ W_,W_ = w.alloc (.cells #[.int .i64 o,.int .i64 n,.int .i64 a,.int .i64 an,.int .i64 i,.int .i64 ii,.int .i64 v,.int .i64 vn] 45):=⟨_,rfl⟩
 rw [← hw_]
 have hb_ : Below w.heap.size w a1:=by rw [hw_]; exact zAa (Below.refl _ _) _
 have n_A : Hid (Var a1 okh okm w.heap.size #[.int .i64 o,.int .i64 n,.int .i64 a,.int .i64 an,.int .i64 i,.int .i64 ii,.int .i64 v,.int .i64 vn] 45):=Lib.hid (Var.fresh R.out.two (by rw [hw_]; exact heap_alloc_new _ _) (Nat.le_refl _))
 have V_A:=n_A
 clear n_A
 have lt_A : w.heap.size < a1.heap.size:=blk_lt V_A.out.blk
 have c_A_0:=bc_ V_A.out.blk 0
 have f_A_0:=zAc V_A.out.blk 0
 have c_A_1:=bc_ V_A.out.blk 1
 have f_A_1:=zAc V_A.out.blk 1
 have c_A_2:=bc_ V_A.out.blk 2
 have f_A_2:=zAc V_A.out.blk 2
 have c_A_3:=bc_ V_A.out.blk 3
 have f_A_3:=zAc V_A.out.blk 3
 have c_A_4:=bc_ V_A.out.blk 4
 have f_A_4:=zAc V_A.out.blk 4
 have c_A_5:=bc_ V_A.out.blk 5
 have f_A_5:=zAc V_A.out.blk 5
 have c_A_6:=bc_ V_A.out.blk 6
 have f_A_6:=zAc V_A.out.blk 6
 have c_A_7:=bc_ V_A.out.blk 7
 have f_A_7:=zAc V_A.out.blk 7
 have nR:=Lib.hid (R.out.below hb_)
 clear R
 have R:=nR
 clear nR
 clear hb_ hw_
 refine (zCJ o 1 _ HP.out).mono ?_
 rintro e_ w_1 ⟨rfl,hb_⟩
 have n_A : Hid (Var w_1 okh okm w.heap.size #[.int .i64 o,.int .i64 n,.int .i64 a,.int .i64 an,.int .i64 i,.int .i64 ii,.int .i64 v,.int .i64 vn] 45):=Lib.hid (V_A.out.below hb_)
 clear V_A lt_A c_A_0 f_A_0 c_A_1 f_A_1 c_A_2 f_A_2 c_A_3 f_A_3 c_A_4 f_A_4 c_A_5 f_A_5 c_A_6 f_A_6 c_A_7 f_A_7
 have V_A:=n_A
 clear n_A
 have lt_A : w.heap.size < w_1.heap.size:=blk_lt V_A.out.blk
 have c_A_0:=bc_ V_A.out.blk 0
 have f_A_0:=zAc V_A.out.blk 0
 have c_A_1:=bc_ V_A.out.blk 1
 have f_A_1:=zAc V_A.out.blk 1
 have c_A_2:=bc_ V_A.out.blk 2
 have f_A_2:=zAc V_A.out.blk 2
 have c_A_3:=bc_ V_A.out.blk 3
 have f_A_3:=zAc V_A.out.blk 3
 have c_A_4:=bc_ V_A.out.blk 4
 have f_A_4:=zAc V_A.out.blk 4
 have c_A_5:=bc_ V_A.out.blk 5
 have f_A_5:=zAc V_A.out.blk 5
 have c_A_6:=bc_ V_A.out.blk 6
 have f_A_6:=zAc V_A.out.blk 6
 have c_A_7:=bc_ V_A.out.blk 7
 have f_A_7:=zAc V_A.out.blk 7
 have nR:=Lib.hid (R.out.below hb_)
 clear R
 have R:=nR
 clear nR
 clear hb_
 go_wp2_with fail
 refine (run_getH R.out a an i ii HX.out).mono ?_
 rintro e_ w_2 ⟨rfl,hb_⟩
 have n_A : Hid (Var w_2 okh okm w.heap.size #[.int .i64 o,.int .i64 n,.int .i64 a,.int .i64 an,.int .i64 i,.int .i64 ii,.int .i64 v,.int .i64 vn] 45):=Lib.hid (V_A.out.below hb_)
 clear V_A lt_A c_A_0 f_A_0 c_A_1 f_A_1 c_A_2 f_A_2 c_A_3 f_A_3 c_A_4 f_A_4 c_A_5 f_A_5 c_A_6 f_A_6 c_A_7 f_A_7
 have V_A:=n_A
 clear n_A
 have lt_A : w.heap.size < w_2.heap.size:=blk_lt V_A.out.blk
 have c_A_0:=bc_ V_A.out.blk 0
 have f_A_0:=zAc V_A.out.blk 0
 have c_A_1:=bc_ V_A.out.blk 1
 have f_A_1:=zAc V_A.out.blk 1
 have c_A_2:=bc_ V_A.out.blk 2
 have f_A_2:=zAc V_A.out.blk 2
 have c_A_3:=bc_ V_A.out.blk 3
 have f_A_3:=zAc V_A.out.blk 3
 have c_A_4:=bc_ V_A.out.blk 4
 have f_A_4:=zAc V_A.out.blk 4
 have c_A_5:=bc_ V_A.out.blk 5
 have f_A_5:=zAc V_A.out.blk 5
 have c_A_6:=bc_ V_A.out.blk 6
 have f_A_6:=zAc V_A.out.blk 6
 have c_A_7:=bc_ V_A.out.blk 7
 have f_A_7:=zAc V_A.out.blk 7
 have nR:=Lib.hid (R.out.below hb_)
 clear R
 have R:=nR
 clear nR
 clear hb_
 go_wp2_with fail
 obtain ⟨a2,hw_⟩ : ∃ W_,W_ = w_2.alloc (.cells #[.int .i64 x0,.int .i64 x1] 43):=⟨_,rfl⟩
 rw [← hw_]
 have hb_ : Below w_2.heap.size w_2 a2:=by rw [hw_]; exact zAa (Below.refl _ _) _
 have n_A : Hid (Var a2 okh okm w.heap.size #[.int .i64 o,.int .i64 n,.int .i64 a,.int .i64 an,.int .i64 i,.int .i64 ii,.int .i64 v,.int .i64 vn] 45):=Lib.hid (V_A.out.below hb_)
 have n_x : Hid (Var a2 okh okm w_2.heap.size #[.int .i64 x0,.int .i64 x1] 43):=Lib.hid (Var.fresh R.out.two (by rw [hw_]; exact heap_alloc_new _ _) (Nat.le_refl _))
 clear V_A lt_A c_A_0 f_A_0 c_A_1 f_A_1 c_A_2 f_A_2 c_A_3 f_A_3 c_A_4 f_A_4 c_A_5 f_A_5 c_A_6 f_A_6 c_A_7 f_A_7
 have V_A:=n_A
 clear n_A
 have lt_A : w.heap.size < a2.heap.size:=blk_lt V_A.out.blk
 have c_A_0:=bc_ V_A.out.blk 0
 have f_A_0:=zAc V_A.out.blk 0
 have c_A_1:=bc_ V_A.out.blk 1
 have f_A_1:=zAc V_A.out.blk 1
 have c_A_2:=bc_ V_A.out.blk 2
 have f_A_2:=zAc V_A.out.blk 2
 have c_A_3:=bc_ V_A.out.blk 3
 have f_A_3:=zAc V_A.out.blk 3
 have c_A_4:=bc_ V_A.out.blk 4
 have f_A_4:=zAc V_A.out.blk 4
 have c_A_5:=bc_ V_A.out.blk 5
 have f_A_5:=zAc V_A.out.blk 5
 have c_A_6:=bc_ V_A.out.blk 6
 have f_A_6:=zAc V_A.out.blk 6
 have c_A_7:=bc_ V_A.out.blk 7
 have f_A_7:=zAc V_A.out.blk 7
 have V_x:=n_x
 clear n_x
 have lt_x : w_2.heap.size < a2.heap.size:=blk_lt V_x.out.blk
 have c_x_0:=bc_ V_x.out.blk 0
 have f_x_0:=zAc V_x.out.blk 0
 have c_x_1:=bc_ V_x.out.blk 1
 have f_x_1:=zAc V_x.out.blk 1
 have nR:=Lib.hid (R.out.below hb_)
 clear R
 have R:=nR
 clear nR
 clear hb_ hw_
 have CA2:=Lib.hid c_A_2
 have CA3:=Lib.hid c_A_3
 have CA4:=Lib.hid c_A_4
 have CA5:=Lib.hid c_A_5
 refine start_ (n:=14) (S:=fun w' => w'.cell? ⟨w.heap.size,2,none⟩ = some (.int .i64 a) ∧ w'.cell? ⟨w.heap.size,3,none⟩ = some (.int .i64 an) ∧ w'.cell? ⟨w.heap.size,4,none⟩ = some (.int .i64 i) ∧ w'.cell? ⟨w.heap.size,5,none⟩ = some (.int .i64 ii)) (ds:=[12]) #[false,false,false,false,false,false,false,false,false,false,false,false,false,false] (by kernel_rfl) rfl rfl ⟨zAC (CA2.out),zAC (CA3.out),zAC (CA4.out),zAC (CA5.out)⟩ (fun hHeld => ?_)
 refine pu_ 0 64 ?_
 refine pu_ 1 65 ?_
 refine pu_ 4 68 ?_
 refine ta_ 2 66 hHeld ?_
 refine ta_ 5 69 hHeld ?_
 refine join_ (σ:=Nat) 2 #[true,true,true,true,true,true,true,true,true,true,true,true,false,false] (fun s => [(67,.agg #[.int .i64 a,.int .i64 an]),(70,.agg #[.int .i64 i,.int .i64 ii]),(71,.tuple #[.agg #[.int .i64 x0,.int .i64 x1],.int .i64 r1]),(63,.tuple #[.agg #[.int .i64 x0,.int .i64 x1],.int .i64 r1]),(72,.agg #[.int .i64 x0,.int .i64 x1]),(73,.int .i64 r1),(15,.pointer (some ⟨s,0,none⟩))]) (fun s w' => Below a2.heap.size a2 w' ∧ w'.heap[s]? = some (.cells #[.int .i64 0,.int .i64 0] 49 (0,0)) ∧ a2.heap.size ≤ s) ?_ ?_
 rotate_left
 ·intro hCont
  refine two_ (i:=3) (j:=11) (Ni:=some 67) (Nj:=some 15) #[true,true,true,true,true,true,false,false,false,false,false,false,false,false] #[true,true,true,false,true,true,false,false,false,false,false,true,false,false] rfl rfl rfl rfl (by kernel_rfl) (by decide) (by decide) (fun K hK => ?_) (fun K hK => ?_)
  ·skip
   refine gs_ Tryz.func7 #[.agg #[.int .i64 a,.int .i64 an]] ?_
   with_reducible refine (zAG.calls a an a an _ rfl).mono ?_
   rintro e w_p3 ⟨rfl,hb_⟩
   refine ⟨_,rfl,?_⟩
   have B_p3:=Lib.hid (zAd ((zAk (Below.refl a2.heap.size a2))) hb_)
   clear hb_
   refine hK.out _ _ ⟨zAb B_p3.out CA2.out,zAb B_p3.out CA3.out,zAb B_p3.out CA4.out,zAb B_p3.out CA5.out⟩ (fun hHeld => ?_)
   clear hK K
   refine no_ ?_
   refine two_ (i:=6) (j:=11) (Ni:=some 70) (Nj:=some 15) #[true,true,true,true,true,true,true,false,false,false,false,false,false,false] #[true,true,true,true,true,true,false,false,false,false,false,true,false,false] rfl rfl rfl rfl (by kernel_rfl) (by decide) (by decide) (fun K hK => ?_) (fun K hK => ?_)
   ·skip
    refine gs_ Tryz.func7 #[.agg #[.int .i64 i,.int .i64 ii]] ?_
    with_reducible refine (zAG.calls i ii i ii _ rfl).mono ?_
    rintro e w_p3_6 ⟨rfl,hb_⟩
    refine ⟨_,rfl,?_⟩
    have B_p3_6:=Lib.hid (zAd (B_p3.out) hb_)
    clear hb_
    refine hK.out _ _ ⟨zAb B_p3_6.out CA2.out,zAb B_p3_6.out CA3.out,zAb B_p3_6.out CA4.out,zAb B_p3_6.out CA5.out⟩ (fun hHeld => ?_)
    clear hK K
    refine no_ ?_
    refine two_ (i:=7) (j:=11) (Ni:=some 71) (Nj:=some 15) #[true,true,true,true,true,true,true,true,false,false,false,false,false,false] #[true,true,true,true,true,true,true,false,false,false,false,true,false,false] rfl rfl rfl rfl (by kernel_rfl) (by decide) (by decide) (fun K hK => ?_) (fun K hK => ?_)
    ·skip
     refine gs_ Tryz.func18 #[.pointer (some ⟨Bm,0,none⟩),.agg #[.int .i64 a,.int .i64 an],.agg #[.int .i64 i,.int .i64 ii]] ?_
     with_reducible refine (zCN (R.out.below (B_p3_6.out)) a an i ii HY.out).mono ?_
     rintro e w_p3_6_7 ⟨rfl,hb_⟩
     refine ⟨_,rfl,?_⟩
     have B_p3_6_7:=Lib.hid (zAd (B_p3_6.out) hb_)
     clear hb_
     refine hK.out _ _ ⟨zAb B_p3_6_7.out CA2.out,zAb B_p3_6_7.out CA3.out,zAb B_p3_6_7.out CA4.out,zAb B_p3_6_7.out CA5.out⟩ (fun hHeld => ?_)
     clear hK K
     refine no_ ?_
     refine pu_ 8 63 ?_
     refine pu_ 9 72 ?_
     refine pu_ 10 73 ?_
     refine on_ 11 (some 15) (fun K hK => ?_)
     refine value_ (w1:=?_) (v:=?_) (by rfl) rfl ?_ ?_
     rotate_left 2
     ·go_simp
      constructor
      ·rfl
      ·rfl
     have B_p3_6_7_11:=Lib.hid (zAa (B_p3_6_7.out) (.cells #[.int .i64 0,.int .i64 0] 49))
     have N_p3_6_7_11 : Hid ((w_p3_6_7.alloc (.cells #[.int .i64 0,.int .i64 0] 49)).heap[w_p3_6_7.heap.size]? = some (.cells #[.int .i64 0,.int .i64 0] 49 (0,0))):=Lib.hid (heap_alloc_new w_p3_6_7 _)
     have LE_N_p3_6_7_11 : Hid (a2.heap.size ≤ w_p3_6_7.heap.size):=Lib.hid ((B_p3_6_7.out).size)
     refine hK.out _ _ ⟨zAb B_p3_6_7_11.out CA2.out,zAb B_p3_6_7_11.out CA3.out,zAb B_p3_6_7_11.out CA4.out,zAb B_p3_6_7_11.out CA5.out⟩ (fun hHeld => ?_)
     clear hK K
     refine no_ ?_
     exact norm_ (by simp only [putAll,Act.put,List.setIfInBounds_toArray,List.set_cons_zero,List.set_cons_succ]) (hCont w_p3_6_7.heap.size _ ⟨B_p3_6_7_11.out,N_p3_6_7_11.out,LE_N_p3_6_7_11.out⟩)
    ·skip
     refine value_ (w1:=?_) (v:=?_) (by rfl) rfl ?_ ?_
     rotate_left 2
     ·go_simp
      constructor
      ·rfl
      ·rfl
     have B_p3_6_11:=Lib.hid (zAa (B_p3_6.out) (.cells #[.int .i64 0,.int .i64 0] 49))
     have N_p3_6_11 : Hid ((w_p3_6.alloc (.cells #[.int .i64 0,.int .i64 0] 49)).heap[w_p3_6.heap.size]? = some (.cells #[.int .i64 0,.int .i64 0] 49 (0,0))):=Lib.hid (heap_alloc_new w_p3_6 _)
     have LE_N_p3_6_11 : Hid (a2.heap.size ≤ w_p3_6.heap.size):=Lib.hid ((B_p3_6.out).size)
     refine hK.out _ _ ⟨zAb B_p3_6_11.out CA2.out,zAb B_p3_6_11.out CA3.out,zAb B_p3_6_11.out CA4.out,zAb B_p3_6_11.out CA5.out⟩ (fun hHeld => ?_)
     clear hK K
     refine no_ ?_
     refine on_ 7 (some 71) (fun K hK => ?_)
     refine gs_ Tryz.func18 #[.pointer (some ⟨Bm,0,none⟩),.agg #[.int .i64 a,.int .i64 an],.agg #[.int .i64 i,.int .i64 ii]] ?_
     with_reducible refine (zCN (R.out.below (B_p3_6_11.out)) a an i ii HY.out).mono ?_
     rintro e w_p3_6_11_7 ⟨rfl,hb_⟩
     refine ⟨_,rfl,?_⟩
     have B_p3_6_11_7:=Lib.hid (zAd (B_p3_6_11.out) hb_)
     have N_p3_6_11_7:=Lib.hid (zAe N_p3_6_11.out hb_)
     have LE_N_p3_6_11_7:=Lib.hid LE_N_p3_6_11.out
     clear hb_
     refine hK.out _ _ ⟨zAb B_p3_6_11_7.out CA2.out,zAb B_p3_6_11_7.out CA3.out,zAb B_p3_6_11_7.out CA4.out,zAb B_p3_6_11_7.out CA5.out⟩ (fun hHeld => ?_)
     clear hK K
     refine no_ ?_
     refine pu_ 8 63 ?_
     refine pu_ 9 72 ?_
     refine pu_ 10 73 ?_
     exact norm_ (by simp only [putAll,Act.put,List.setIfInBounds_toArray,List.set_cons_zero,List.set_cons_succ]) (hCont w_p3_6.heap.size _ ⟨B_p3_6_11_7.out,N_p3_6_11_7.out,LE_N_p3_6_11_7.out⟩)
   ·skip
    refine value_ (w1:=?_) (v:=?_) (by rfl) rfl ?_ ?_
    rotate_left 2
    ·go_simp
     constructor
     ·rfl
     ·rfl
    have B_p3_11:=Lib.hid (zAa (B_p3.out) (.cells #[.int .i64 0,.int .i64 0] 49))
    have N_p3_11 : Hid ((w_p3.alloc (.cells #[.int .i64 0,.int .i64 0] 49)).heap[w_p3.heap.size]? = some (.cells #[.int .i64 0,.int .i64 0] 49 (0,0))):=Lib.hid (heap_alloc_new w_p3 _)
    have LE_N_p3_11 : Hid (a2.heap.size ≤ w_p3.heap.size):=Lib.hid ((B_p3.out).size)
    refine hK.out _ _ ⟨zAb B_p3_11.out CA2.out,zAb B_p3_11.out CA3.out,zAb B_p3_11.out CA4.out,zAb B_p3_11.out CA5.out⟩ (fun hHeld => ?_)
    clear hK K
    refine no_ ?_
    refine on_ 6 (some 70) (fun K hK => ?_)
    refine gs_ Tryz.func7 #[.agg #[.int .i64 i,.int .i64 ii]] ?_
    with_reducible refine (zAG.calls i ii i ii _ rfl).mono ?_
    rintro e w_p3_11_6 ⟨rfl,hb_⟩
    refine ⟨_,rfl,?_⟩
    have B_p3_11_6:=Lib.hid (zAd (B_p3_11.out) hb_)
    have N_p3_11_6:=Lib.hid (zAe N_p3_11.out hb_)
    have LE_N_p3_11_6:=Lib.hid LE_N_p3_11.out
    clear hb_
    refine hK.out _ _ ⟨zAb B_p3_11_6.out CA2.out,zAb B_p3_11_6.out CA3.out,zAb B_p3_11_6.out CA4.out,zAb B_p3_11_6.out CA5.out⟩ (fun hHeld => ?_)
    clear hK K
    refine no_ ?_
    refine on_ 7 (some 71) (fun K hK => ?_)
    refine gs_ Tryz.func18 #[.pointer (some ⟨Bm,0,none⟩),.agg #[.int .i64 a,.int .i64 an],.agg #[.int .i64 i,.int .i64 ii]] ?_
    with_reducible refine (zCN (R.out.below (B_p3_11_6.out)) a an i ii HY.out).mono ?_
    rintro e w_p3_11_6_7 ⟨rfl,hb_⟩
    refine ⟨_,rfl,?_⟩
    have B_p3_11_6_7:=Lib.hid (zAd (B_p3_11_6.out) hb_)
    have N_p3_11_6_7:=Lib.hid (zAe N_p3_11_6.out hb_)
    have LE_N_p3_11_6_7:=Lib.hid LE_N_p3_11_6.out
    clear hb_
    refine hK.out _ _ ⟨zAb B_p3_11_6_7.out CA2.out,zAb B_p3_11_6_7.out CA3.out,zAb B_p3_11_6_7.out CA4.out,zAb B_p3_11_6_7.out CA5.out⟩ (fun hHeld => ?_)
    clear hK K
    refine no_ ?_
    refine pu_ 8 63 ?_
    refine pu_ 9 72 ?_
    refine pu_ 10 73 ?_
    exact norm_ (by simp only [putAll,Act.put,List.setIfInBounds_toArray,List.set_cons_zero,List.set_cons_succ]) (hCont w_p3.heap.size _ ⟨B_p3_11_6_7.out,N_p3_11_6_7.out,LE_N_p3_11_6_7.out⟩)
  ·skip
   refine value_ (w1:=?_) (v:=?_) (by rfl) rfl ?_ ?_
   rotate_left 2
   ·go_simp
    constructor
    ·rfl
    ·rfl
   have B_p11:=Lib.hid (zAa ((zAk (Below.refl a2.heap.size a2))) (.cells #[.int .i64 0,.int .i64 0] 49))
   have N_p11 : Hid ((a2.drew.alloc (.cells #[.int .i64 0,.int .i64 0] 49)).heap[a2.heap.size]? = some (.cells #[.int .i64 0,.int .i64 0] 49 (0,0))):=Lib.hid (heap_alloc_new a2.drew _)
   have LE_N_p11 : Hid (a2.heap.size ≤ a2.heap.size):=Lib.hid (Nat.le_refl _)
   refine hK.out _ _ ⟨zAb B_p11.out CA2.out,zAb B_p11.out CA3.out,zAb B_p11.out CA4.out,zAb B_p11.out CA5.out⟩ (fun hHeld => ?_)
   clear hK K
   refine no_ ?_
   refine on_ 3 (some 67) (fun K hK => ?_)
   refine gs_ Tryz.func7 #[.agg #[.int .i64 a,.int .i64 an]] ?_
   with_reducible refine (zAG.calls a an a an _ rfl).mono ?_
   rintro e w_p11_3 ⟨rfl,hb_⟩
   refine ⟨_,rfl,?_⟩
   have B_p11_3:=Lib.hid (zAd (B_p11.out) hb_)
   have N_p11_3:=Lib.hid (zAe N_p11.out hb_)
   have LE_N_p11_3:=Lib.hid LE_N_p11.out
   clear hb_
   refine hK.out _ _ ⟨zAb B_p11_3.out CA2.out,zAb B_p11_3.out CA3.out,zAb B_p11_3.out CA4.out,zAb B_p11_3.out CA5.out⟩ (fun hHeld => ?_)
   clear hK K
   refine no_ ?_
   refine on_ 6 (some 70) (fun K hK => ?_)
   refine gs_ Tryz.func7 #[.agg #[.int .i64 i,.int .i64 ii]] ?_
   with_reducible refine (zAG.calls i ii i ii _ rfl).mono ?_
   rintro e w_p11_3_6 ⟨rfl,hb_⟩
   refine ⟨_,rfl,?_⟩
   have B_p11_3_6:=Lib.hid (zAd (B_p11_3.out) hb_)
   have N_p11_3_6:=Lib.hid (zAe N_p11_3.out hb_)
   have LE_N_p11_3_6:=Lib.hid LE_N_p11_3.out
   clear hb_
   refine hK.out _ _ ⟨zAb B_p11_3_6.out CA2.out,zAb B_p11_3_6.out CA3.out,zAb B_p11_3_6.out CA4.out,zAb B_p11_3_6.out CA5.out⟩ (fun hHeld => ?_)
   clear hK K
   refine no_ ?_
   refine on_ 7 (some 71) (fun K hK => ?_)
   refine gs_ Tryz.func18 #[.pointer (some ⟨Bm,0,none⟩),.agg #[.int .i64 a,.int .i64 an],.agg #[.int .i64 i,.int .i64 ii]] ?_
   with_reducible refine (zCN (R.out.below (B_p11_3_6.out)) a an i ii HY.out).mono ?_
   rintro e w_p11_3_6_7 ⟨rfl,hb_⟩
   refine ⟨_,rfl,?_⟩
   have B_p11_3_6_7:=Lib.hid (zAd (B_p11_3_6.out) hb_)
   have N_p11_3_6_7:=Lib.hid (zAe N_p11_3_6.out hb_)
   have LE_N_p11_3_6_7:=Lib.hid LE_N_p11_3_6.out
   clear hb_
   refine hK.out _ _ ⟨zAb B_p11_3_6_7.out CA2.out,zAb B_p11_3_6_7.out CA3.out,zAb B_p11_3_6_7.out CA4.out,zAb B_p11_3_6_7.out CA5.out⟩ (fun hHeld => ?_)
   clear hK K
   refine no_ ?_
   refine pu_ 8 63 ?_
   refine pu_ 9 72 ?_
   refine pu_ 10 73 ?_
   exact norm_ (by simp only [putAll,Act.put,List.setIfInBounds_toArray,List.set_cons_zero,List.set_cons_succ]) (hCont a2.heap.size _ ⟨B_p11_3_6_7.out,N_p11_3_6_7.out,LE_N_p11_3_6_7.out⟩)
 rintro sp wFp ⟨hF1p,hF2p,hF3p⟩
 have hHeld:=True.intro
 refine norm_ (a':=?_) ?_ ?_
 rotate_left
 ·simp only [putAll,Act.put,List.setIfInBounds_toArray,List.set_cons_zero,List.set_cons_succ]
  rfl
 refine last_ (i:=12) (N:=none) #[true,true,true,true,true,true,true,true,true,true,true,true,true,false] rfl rfl (by kernel_rfl) (by decide) (fun K hK => ?_)
 have cv0:=(zAh hF2p 0).trans rfl
 have cv1:=(zAh hF2p 1).trans rfl
 have fv0:=zAc hF2p 0
 have fv1:=zAc hF2p 1
 refine skip_ (w1:=?_) (by rfl) rfl ?_ ?_
 rotate_left
 ·go_simp
  rfl
 refine hK.out _ _ ?_
 clear hK K
 refine pu_ 13 16 ?_
 refine done_ (by kernel_rfl) ?_
 clear cv0 cv1 fv0 fv1 CA2 CA3 CA4 CA5
 obtain ⟨a3,hw_⟩ : ∃ W_,W_ = (wFp.setCell ⟨sp,0,none⟩ (.int .i64 x0)).setCell ⟨sp,1,none⟩ (.int .i64 x1):=⟨_,rfl⟩
 rw [← hw_]
 have hb_ : Below a2.heap.size a2 a3:=by rw [hw_]; exact Below.setCell (Below.setCell (hF1p) (p:=⟨sp,_,none⟩) hF3p _) (p:=⟨sp,_,none⟩) hF3p _
 have n_A : Hid (Var a3 okh okm w.heap.size #[.int .i64 o,.int .i64 n,.int .i64 a,.int .i64 an,.int .i64 i,.int .i64 ii,.int .i64 v,.int .i64 vn] 45):=Lib.hid (V_A.out.below hb_)
 have n_x : Hid (Var a3 okh okm w_2.heap.size #[.int .i64 x0,.int .i64 x1] 43):=Lib.hid (V_x.out.below hb_)
 have n_y : Hid (Var a3 okh okm sp #[.int .i64 x0,.int .i64 x1] 49):=Lib.hid (Var.fresh R.out.two (by rw [hw_]; exact blk_put (blk_put (hF2p) 0 _ rfl) 1 _ rfl) hF3p)
 clear V_A lt_A c_A_0 f_A_0 c_A_1 f_A_1 c_A_2 f_A_2 c_A_3 f_A_3 c_A_4 f_A_4 c_A_5 f_A_5 c_A_6 f_A_6 c_A_7 f_A_7 V_x lt_x c_x_0 f_x_0 c_x_1 f_x_1
 have V_A:=n_A
 clear n_A
 have lt_A : w.heap.size < a3.heap.size:=blk_lt V_A.out.blk
 have c_A_0:=bc_ V_A.out.blk 0
 have f_A_0:=zAc V_A.out.blk 0
 have c_A_1:=bc_ V_A.out.blk 1
 have f_A_1:=zAc V_A.out.blk 1
 have c_A_2:=bc_ V_A.out.blk 2
 have f_A_2:=zAc V_A.out.blk 2
 have c_A_3:=bc_ V_A.out.blk 3
 have f_A_3:=zAc V_A.out.blk 3
 have c_A_4:=bc_ V_A.out.blk 4
 have f_A_4:=zAc V_A.out.blk 4
 have c_A_5:=bc_ V_A.out.blk 5
 have f_A_5:=zAc V_A.out.blk 5
 have c_A_6:=bc_ V_A.out.blk 6
 have f_A_6:=zAc V_A.out.blk 6
 have c_A_7:=bc_ V_A.out.blk 7
 have f_A_7:=zAc V_A.out.blk 7
 have V_x:=n_x
 clear n_x
 have lt_x : w_2.heap.size < a3.heap.size:=blk_lt V_x.out.blk
 have c_x_0:=bc_ V_x.out.blk 0
 have f_x_0:=zAc V_x.out.blk 0
 have c_x_1:=bc_ V_x.out.blk 1
 have f_x_1:=zAc V_x.out.blk 1
 have V_y:=n_y
 clear n_y
 have lt_y : sp < a3.heap.size:=blk_lt V_y.out.blk
 have c_y_0:=bc_ V_y.out.blk 0
 have f_y_0:=zAc V_y.out.blk 0
 have c_y_1:=bc_ V_y.out.blk 1
 have f_y_1:=zAc V_y.out.blk 1
 have nR:=Lib.hid (R.out.below hb_)
 clear R
 have R:=nR
 clear nR
 clear hb_ hw_
 clear V_A lt_A c_A_0 f_A_0 c_A_1 f_A_1 c_A_2 f_A_2 c_A_3 f_A_3 c_A_4 f_A_4 c_A_5 f_A_5 c_A_6 f_A_6 c_A_7 f_A_7
 go_wp2_with fail
 refine start_ (n:=10) (S:=fun w' => w'.cell? ⟨w_2.heap.size,0,none⟩ = some (.int .i64 x0) ∧ w'.cell? ⟨w_2.heap.size,1,none⟩ = some (.int .i64 x1) ∧ w'.cell? ⟨sp,0,none⟩ = some (.int .i64 x0) ∧ w'.cell? ⟨sp,1,none⟩ = some (.int .i64 x1)) (ds:=[]) #[false,false,false,false,false,false,false,false,false,false] (by kernel_rfl) rfl rfl ⟨zAC c_x_0,zAC c_x_1,zAC c_y_0,zAC c_y_1⟩ (fun hHeld => ?_)
 refine ta_ 0 74 hHeld ?_
 refine ta_ 2 76 hHeld ?_
 refine on_ 1 (some 75) (fun K hK => ?_)
 refine gs_ Tryz.func7 #[.agg #[.int .i64 x0,.int .i64 x1]] ?_
 with_reducible refine (zAG.calls x0 x1 x0 x1 _ rfl).mono ?_
 rintro e_ z1 ⟨rfl,hb_⟩
 refine ⟨_,rfl,?_⟩
 have Q_z1:=Lib.hid (zAd (zAk (Below.refl a3.heap.size a3)) hb_)
 have P_z1:=Lib.hid hb_
 clear hb_
 refine hK.out _ _ ⟨zAb P_z1.out hHeld.1,zAb P_z1.out hHeld.2.1,zAb P_z1.out hHeld.2.2.1,zAb P_z1.out hHeld.2.2.2⟩ (fun hHeld => ?_)
 clear hK K
 refine no_ ?_
 refine pu_ 3 77 ?_
 refine pu_ 4 78 ?_
 refine pu_ 5 79 ?_
 refine pu_ 6 80 ?_
 refine pu_ 7 81 ?_
 refine pu_ 8 82 ?_
 refine pu_ 9 6 ?_
 refine done_ (by kernel_rfl) ?_
 have n_x : Hid (Var z1 okh okm w_2.heap.size #[.int .i64 x0,.int .i64 x1] 43):=Lib.hid (V_x.out.below Q_z1.out)
 have n_y : Hid (Var z1 okh okm sp #[.int .i64 x0,.int .i64 x1] 49):=Lib.hid (V_y.out.below Q_z1.out)
 clear V_x lt_x c_x_0 f_x_0 c_x_1 f_x_1 V_y lt_y c_y_0 f_y_0 c_y_1 f_y_1
 have V_x:=n_x
 clear n_x
 have lt_x : w_2.heap.size < z1.heap.size:=blk_lt V_x.out.blk
 have c_x_0:=bc_ V_x.out.blk 0
 have f_x_0:=zAc V_x.out.blk 0
 have c_x_1:=bc_ V_x.out.blk 1
 have f_x_1:=zAc V_x.out.blk 1
 have V_y:=n_y
 clear n_y
 have lt_y : sp < z1.heap.size:=blk_lt V_y.out.blk
 have c_y_0:=bc_ V_y.out.blk 0
 have f_y_0:=zAc V_y.out.blk 0
 have c_y_1:=bc_ V_y.out.blk 1
 have f_y_1:=zAc V_y.out.blk 1
 have nR:=Lib.hid (R.out.below Q_z1.out)
 clear R
 have R:=nR
 clear nR
 go_wp2_with fail
 go_ret
 exact ⟨rfl,R.out.after⟩
theorem does_set {w : World} {Bh Bm : Nat} {okh okm : Nat → Prop} {L M : List (List Int)} (o n a an i ii v vn pk : Int) {r0 r1 : Int} (hx : wrongF L a an i ii = r0) (hy : wrongF M a an i ii = r1) (h0 : (pk == 0) = false) (h1 : (pk == 1) = false) (T : Two w Bh Bm okh okm L M) (hp : zAL.f o 4 = some pk) :
  Calls Tryz.prog 6 #[.pointer (some ⟨Bh,0,none⟩),.pointer (some ⟨Bm,0,none⟩),.agg #[.int .i64 o,.int .i64 n,.int .i64 a,.int .i64 an,.int .i64 i,.int .i64 ii,.int .i64 v,.int .i64 vn]] w fun e w' => e = .returned (.bool (r0 == r1)) ∧ After w Bh Bm okh okm (setL L a an i ii v vn) (setL M a an i ii v vn) w':=by
 have HX:=Lib.hid hx
 have HY:=Lib.hid hy
 clear hx hy
 have HP:=Lib.hid hp
 have R:=Lib.hid (Run.start T)
 clear hp T
 go_enter Tryz.func6,Tryz.ntmps6
 go_wp2_with fail
 obtain ⟨a1,hw_⟩ : ∃ W_,W_ = w.alloc (.cells #[.int .i64 o,.int .i64 n,.int .i64 a,.int .i64 an,.int .i64 i,.int .i64 ii,.int .i64 v,.int .i64 vn] 45):=⟨_,rfl⟩
 rw [← hw_]
 have hb_ : Below w.heap.size w a1:=by rw [hw_]; exact zAa (Below.refl _ _) _
 have n_A : Hid (Var a1 okh okm w.heap.size #[.int .i64 o,.int .i64 n,.int .i64 a,.int .i64 an,.int .i64 i,.int .i64 ii,.int .i64 v,.int .i64 vn] 45):=Lib.hid (Var.fresh R.out.two (by rw [hw_]; exact heap_alloc_new _ _) (Nat.le_refl _))
 have V_A:=n_A
 clear n_A
 have lt_A : w.heap.size < a1.heap.size:=blk_lt V_A.out.blk
 have c_A_0:=bc_ V_A.out.blk 0
 have f_A_0:=zAc V_A.out.blk 0
 have c_A_1:=bc_ V_A.out.blk 1
 have f_A_1:=zAc V_A.out.blk 1
 have c_A_2:=bc_ V_A.out.blk 2
 have f_A_2:=zAc V_A.out.blk 2
 have c_A_3:=bc_ V_A.out.blk 3
 have f_A_3:=zAc V_A.out.blk 3
 have c_A_4:=bc_ V_A.out.blk 4
 have f_A_4:=zAc V_A.out.blk 4
 have c_A_5:=bc_ V_A.out.blk 5
 have f_A_5:=zAc V_A.out.blk 5
 have c_A_6:=bc_ V_A.out.blk 6
 have f_A_6:=zAc V_A.out.blk 6
 have c_A_7:=bc_ V_A.out.blk 7
 have f_A_7:=zAc V_A.out.blk 7
 have nR:=Lib.hid (R.out.below hb_)
 clear R
 have R:=nR
 clear nR
 clear hb_ hw_
 refine (zCJ o pk _ HP.out).mono ?_
 rintro e_ w_1 ⟨rfl,hb_⟩
 have n_A : Hid (Var w_1 okh okm w.heap.size #[.int .i64 o,.int .i64 n,.int .i64 a,.int .i64 an,.int .i64 i,.int .i64 ii,.int .i64 v,.int .i64 vn] 45):=Lib.hid (V_A.out.below hb_)
 clear V_A lt_A c_A_0 f_A_0 c_A_1 f_A_1 c_A_2 f_A_2 c_A_3 f_A_3 c_A_4 f_A_4 c_A_5 f_A_5 c_A_6 f_A_6 c_A_7 f_A_7
 have V_A:=n_A
 clear n_A
 have lt_A : w.heap.size < w_1.heap.size:=blk_lt V_A.out.blk
 have c_A_0:=bc_ V_A.out.blk 0
 have f_A_0:=zAc V_A.out.blk 0
 have c_A_1:=bc_ V_A.out.blk 1
 have f_A_1:=zAc V_A.out.blk 1
 have c_A_2:=bc_ V_A.out.blk 2
 have f_A_2:=zAc V_A.out.blk 2
 have c_A_3:=bc_ V_A.out.blk 3
 have f_A_3:=zAc V_A.out.blk 3
 have c_A_4:=bc_ V_A.out.blk 4
 have f_A_4:=zAc V_A.out.blk 4
 have c_A_5:=bc_ V_A.out.blk 5
 have f_A_5:=zAc V_A.out.blk 5
 have c_A_6:=bc_ V_A.out.blk 6
 have f_A_6:=zAc V_A.out.blk 6
 have c_A_7:=bc_ V_A.out.blk 7
 have f_A_7:=zAc V_A.out.blk 7
 have nR:=Lib.hid (R.out.below hb_)
 clear R
 have R:=nR
 clear nR
 clear hb_
 go_wp2_with fail
 have RD:=Lib.hid (R.out.below (zAk (Below.refl _ _)))
 have VD:=Lib.hid (V_A.out.below (zAk (Below.refl _ _)))
 refine start_ (n:=21) (S:=fun w' => w'.cell? ⟨w.heap.size,2,none⟩ = some (.int .i64 a) ∧ w'.cell? ⟨w.heap.size,3,none⟩ = some (.int .i64 an) ∧ w'.cell? ⟨w.heap.size,4,none⟩ = some (.int .i64 i) ∧ w'.cell? ⟨w.heap.size,5,none⟩ = some (.int .i64 ii) ∧ w'.cell? ⟨w.heap.size,6,none⟩ = some (.int .i64 v) ∧ w'.cell? ⟨w.heap.size,7,none⟩ = some (.int .i64 vn)) (ds:=[]) #[false,false,false,false,false,false,false,false,false,false,false,false,false,false,false,false,false,false,false,false,false] (by kernel_rfl) rfl rfl ⟨zAC c_A_2,zAC c_A_3,zAC c_A_4,zAC c_A_5,zAC c_A_6,zAC c_A_7⟩ (fun hHeld => ?_)
 refine pu_ 0 83 ?_
 refine pu_ 1 84 ?_
 refine pu_ 3 86 ?_
 refine pu_ 5 88 ?_
 refine pu_ 8 91 ?_
 refine pu_ 9 92 ?_
 refine pu_ 12 95 ?_
 refine pu_ 15 98 ?_
 refine ta_ 2 85 hHeld ?_
 refine ta_ 4 87 hHeld ?_
 refine ta_ 6 89 hHeld ?_
 refine ta_ 10 93 hHeld ?_
 refine ta_ 13 96 hHeld ?_
 refine ta_ 16 99 hHeld ?_
 refine on_ 7 (some 90) (fun K hK => ?_)
 refine gs_ Tryz.func13 #[.pointer (some ⟨Bh,0,none⟩),.agg #[.int .i64 a,.int .i64 an],.agg #[.int .i64 i,.int .i64 ii],.agg #[.int .i64 v,.int .i64 vn]] ?_
 with_reducible refine (run_setH RD.out a an i ii v vn HX.out).mono ?_
 rintro e_ y1 ⟨rfl,R_,K_⟩
 refine ⟨_,rfl,?_⟩
 have R1:=Lib.hid R_
 have V1:=Lib.hid (VD.out.keep K_)
 clear R_ K_
 refine hK.out _ _ ⟨(zAh V1.out.blk 2).trans rfl,(zAh V1.out.blk 3).trans rfl,(zAh V1.out.blk 4).trans rfl,(zAh V1.out.blk 5).trans rfl,(zAh V1.out.blk 6).trans rfl,(zAh V1.out.blk 7).trans rfl⟩ (fun hHeld => ?_)
 clear hK K
 refine no_ ?_
 refine on_ 11 (some 94) (fun K hK => ?_)
 refine gs_ Tryz.func7 #[.agg #[.int .i64 a,.int .i64 an]] ?_
 with_reducible refine (zAG.calls a an a an _ rfl).mono ?_
 rintro e_ y2 ⟨rfl,hb_⟩
 refine ⟨_,rfl,?_⟩
 have R2:=Lib.hid (R1.out.below hb_)
 have V2:=Lib.hid (V1.out.below hb_)
 clear hb_
 refine hK.out _ _ ⟨(zAh V2.out.blk 2).trans rfl,(zAh V2.out.blk 3).trans rfl,(zAh V2.out.blk 4).trans rfl,(zAh V2.out.blk 5).trans rfl,(zAh V2.out.blk 6).trans rfl,(zAh V2.out.blk 7).trans rfl⟩ (fun hHeld => ?_)
 clear hK K
 refine no_ ?_
 refine on_ 14 (some 97) (fun K hK => ?_)
 refine gs_ Tryz.func7 #[.agg #[.int .i64 i,.int .i64 ii]] ?_
 with_reducible refine (zAG.calls i ii i ii _ rfl).mono ?_
 rintro e_ y3 ⟨rfl,hb_⟩
 refine ⟨_,rfl,?_⟩
 have R3:=Lib.hid (R2.out.below hb_)
 have V3:=Lib.hid (V2.out.below hb_)
 clear hb_
 refine hK.out _ _ ⟨(zAh V3.out.blk 2).trans rfl,(zAh V3.out.blk 3).trans rfl,(zAh V3.out.blk 4).trans rfl,(zAh V3.out.blk 5).trans rfl,(zAh V3.out.blk 6).trans rfl,(zAh V3.out.blk 7).trans rfl⟩ (fun hHeld => ?_)
 clear hK K
 refine no_ ?_
 refine on_ 17 (some 100) (fun K hK => ?_)
 refine gs_ Tryz.func7 #[.agg #[.int .i64 v,.int .i64 vn]] ?_
 with_reducible refine (zAG.calls v vn v vn _ rfl).mono ?_
 rintro e_ y4 ⟨rfl,hb_⟩
 refine ⟨_,rfl,?_⟩
 have R4:=Lib.hid (R3.out.below hb_)
 have V4:=Lib.hid (V3.out.below hb_)
 clear hb_
 refine hK.out _ _ ⟨(zAh V4.out.blk 2).trans rfl,(zAh V4.out.blk 3).trans rfl,(zAh V4.out.blk 4).trans rfl,(zAh V4.out.blk 5).trans rfl,(zAh V4.out.blk 6).trans rfl,(zAh V4.out.blk 7).trans rfl⟩ (fun hHeld => ?_)
 clear hK K
 refine no_ ?_
 refine on_ 18 (some 101) (fun K hK => ?_)
 refine gs_ Tryz.func19 #[.pointer (some ⟨Bm,0,none⟩),.agg #[.int .i64 a,.int .i64 an],.agg #[.int .i64 i,.int .i64 ii],.agg #[.int .i64 v,.int .i64 vn]] ?_
 with_reducible refine (run_setM R4.out a an i ii v vn HY.out).mono ?_
 rintro e_ y5 ⟨rfl,R_,K_⟩
 refine ⟨_,rfl,?_⟩
 have R5:=Lib.hid R_
 have V5:=Lib.hid (V4.out.keep K_)
 clear R_ K_
 refine hK.out _ _ ⟨(zAh V5.out.blk 2).trans rfl,(zAh V5.out.blk 3).trans rfl,(zAh V5.out.blk 4).trans rfl,(zAh V5.out.blk 5).trans rfl,(zAh V5.out.blk 6).trans rfl,(zAh V5.out.blk 7).trans rfl⟩ (fun hHeld => ?_)
 clear hK K
 refine no_ ?_
 refine pu_ 19 102 ?_
 refine pu_ 20 6 ?_
 refine done_ (by kernel_rfl) ?_
 go_wp2_with fail
 go_ret
 exact ⟨rfl,R5.out.after⟩
end Go.Proofs.YtkhlfdcjgooogaaGreat.P
