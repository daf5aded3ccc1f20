import Derived.Test.YtkhlfdcjgooogaaGreatWMore
import Derived.Test.YtkhlfdcjgooogaaGreatHeapF
import Derived.Test.YtkhlfdcjgooogaaGreatTyC
set_option maxRecDepth 100000
set_option maxHeartbeats 16000000
set_option linter.unusedVariables false
set_option linter.unusedSimpArgs false
set_option linter.unusedSectionVars false
namespace Go.Proofs.YtkhlfdcjgooogaaGreat.P
open Go.RowKit Go.Proofs.YtkhlfdcjgooogaaGreatW.PrintWords Go.Proofs.YtkhlfdcjgooogaaGreatW.PrintLast Go.Proofs.YtkhlfdcjgooogaaGreatW.PrintMore
def tN (b : Bool) : Int:=if b = true then 1 else 0
theorem zBy (b : Bool) (w : World) : Calls Tryz.prog 25 #[.bool b] w fun e w' => e = .returned (.agg #[.int .i64 2,.int .i64 (tN b)]) ∧ Below w.heap.size w w':=by
 cases b
 ·go_enter Tryz.func25,Tryz.ntmps25
  go_wp2_with fail
  refine bodyPost_ret (results_cell_row rfl _ _ w.heap.size 43 #[.int .i64 2,.int .i64 0] (0,0) _ rfl (blk_new w _) Tryz.underlying43 rfl (by kernel_rfl)) rfl ?_
  exact ⟨rfl,zAa (Below.refl _ _) _⟩
 ·go_enter Tryz.func25,Tryz.ntmps25
  go_wp2_with fail
  refine bodyPost_ret (results_cell_row rfl _ _ w.heap.size 43 #[.int .i64 2,.int .i64 1] (0,0) _ rfl (blk_new w _) Tryz.underlying43 rfl (by kernel_rfl)) rfl ?_
  exact ⟨rfl,zAa (Below.refl _ _) _⟩
theorem of9_is (b : Bool) (w : World) : Calls Tryz.prog 90 #[.bool b] w fun e w' => e = .returned (.agg #[.int .i64 2,.int .i64 (tN b)]) ∧ Below w.heap.size w w':=by
 cases b
 ·go_enter Tryz.func90,Tryz.ntmps90
  go_wp2_with fail
  refine bodyPost_ret (results_cell_row rfl _ _ w.heap.size 49 #[.int .i64 2,.int .i64 0] (0,0) _ rfl (blk_new w _) Tryz.underlying49 rfl (by kernel_rfl)) rfl ?_
  exact ⟨rfl,zAa (Below.refl _ _) _⟩
 ·go_enter Tryz.func90,Tryz.ntmps90
  go_wp2_with fail
  refine bodyPost_ret (results_cell_row rfl _ _ w.heap.size 49 #[.int .i64 2,.int .i64 1] (0,0) _ rfl (blk_new w _) Tryz.underlying49 rfl (by kernel_rfl)) rfl ?_
  exact ⟨rfl,zAa (Below.refl _ _) _⟩
theorem zBw (x : Int) (w : World) : Calls Tryz.prog 29 #[.int .i64 x] w fun e w' => e = .returned (.agg #[.int .i64 1,.int .i64 x]) ∧ Below w.heap.size w w':=by
 go_enter Tryz.func29,Tryz.ntmps29
 go_wp2_with fail
 refine bodyPost_ret (results_cell_row rfl _ _ w.heap.size 43 #[.int .i64 1,.int .i64 x] (0,0) _ rfl (blk_new w _) Tryz.underlying43 rfl (by kernel_rfl)) rfl ?_
 exact ⟨rfl,zAa (Below.refl _ _) _⟩
def unG (s : List UInt8) (k n : Int) : Int × Int × Bool :=
 if s = [45] ∧ k = 1 then (1,wrap64 (-n),true) else if s = [33] ∧ k = 2 then (2,tN (n == 0),true) else (0,0,false)
theorem eq_lit (s : ByteArray) (l : List UInt8) (h : s.toList ≠ l) : (s.toList == l) = false:=beq_eq_false_iff_ne.2 h
theorem nb1 (X : World) (o o' : Obj) : ((X.alloc o).alloc o').heap[X.heap.size + 1]? = some o':=by
 have h:=heap_alloc_new (X.alloc o) o'
 have e : (X.alloc o).heap.size = X.heap.size + 1:=by simp
 rwa [e] at h
theorem nb2 (X : World) (o o' o2 : Obj) : (((X.alloc o).alloc o').alloc o2).heap[X.heap.size + 1 + 1]? = some o2:=by
 have h:=heap_alloc_new ((X.alloc o).alloc o') o2
 have e : ((X.alloc o).alloc o').heap.size = X.heap.size + 1 + 1:=by simp
 rwa [e] at h
theorem value_Unary_is (s : ByteArray) (k n : Int) (r : Int × Int × Bool) (hr : r = unG s.toList k n) (w : World) : Calls Tryz.prog 40 #[.string s,.agg #[.int .i64 k,.int .i64 n]] w fun e w' => e = .returned (.tuple #[.agg #[.int .i64 r.1,.int .i64 r.2.1],.bool r.2.2]) ∧ Below w.heap.size w w':=by
 obtain ⟨W0,hW0⟩ : ∃ W0,W0 = ((w).alloc (.cells #[.int .i64 k,.int .i64 n] 43)).alloc (.cells #[.int .i64 0,.int .i64 0] 43):=⟨_,rfl⟩
 have HB0 : Hid (Below w.heap.size w W0):=Lib.hid (by rw [hW0]; exact zAa (zAa (Below.refl _ _) _) _)
 have X0 : Hid (W0.heap[w.heap.size + 1]? = some (.cells #[.int .i64 0,.int .i64 0] 43 (0,0))):=Lib.hid (by rw [hW0]; exact nb1 w _ _)
 have HW0:=Lib.hid hW0
 clear hW0
 by_cases h1 : s.toList = [45]
 ·by_cases hk : k = 1
  ·have HV : Hid (r = (1,wrap64 (-n),true)):=Lib.hid (by rw [hr,h1,hk]; rfl)
   subst hk
   clear hr
   go_enter Tryz.func40,Tryz.ntmps40
   go_wp2_with fail
   rw [← HW0.out]
   refine (zBw (wrap64 (-n)) W0).mono ?_
   rintro e_ W1 ⟨rfl,hb_⟩
   have HB1:=Lib.hid (zAd HB0.out hb_)
   have X1:=Lib.hid (zAe X0.out hb_)
   have d0:=bc_ X1.out 0
   have d1:=bc_ X1.out 1
   have f0:=zAc X1.out 0
   have f1:=zAc X1.out 1
   clear hb_
   go_wp2_with fail
   refine bodyPost_ret (zAq rfl _ _ (w.heap.size + 1) 43 _ (0,0) _ rfl (blk_put (blk_put X1.out 0 _ rfl) 1 _ rfl) Tryz.underlying43 rfl (by kernel_rfl)) rfl ?_
   exact ⟨by rw [HV.out]; rfl,(HB1.out.setCell (by show w.heap.size ≤ w.heap.size + 1; omega) _).setCell (by show w.heap.size ≤ w.heap.size + 1; omega) _⟩
  ·have HV : Hid (r = (0,0,false)):=Lib.hid (by rw [hr,h1]; unfold unG; rw [if_neg (fun h => hk h.2),if_neg (fun h => absurd h.1 (by decide))])
   have hkb : (k == 1) = false:=beq_eq_false_iff_ne.2 hk
   clear hr
   go_enter Tryz.func40,Tryz.ntmps40
   go_wp2_with fail
   refine bodyPost_ret (zAq rfl _ _ (w.heap.size + 1) 43 #[.int .i64 0,.int .i64 0] (0,0) _ rfl (nb1 w _ _) Tryz.underlying43 rfl (by kernel_rfl)) rfl ?_
   exact ⟨by rw [HV.out]; rfl,zAa (zAa (Below.refl _ _) _) _⟩
 ·have h1b:=eq_lit s _ h1
  by_cases h2 : s.toList = [33]
  ·by_cases hk : k = 2
   ·have HV : Hid (r = (2,tN (n == 0),true)):=Lib.hid (by rw [hr,h2,hk]; rfl)
    subst hk
    clear hr h1
    go_enter Tryz.func40,Tryz.ntmps40
    go_wp2_with fail
    rw [← HW0.out]
    refine (zBy (n == 0) W0).mono ?_
    rintro e_ W1 ⟨rfl,hb_⟩
    have HB1:=Lib.hid (zAd HB0.out hb_)
    have X1:=Lib.hid (zAe X0.out hb_)
    have d0:=bc_ X1.out 0
    have d1:=bc_ X1.out 1
    have f0:=zAc X1.out 0
    have f1:=zAc X1.out 1
    clear hb_
    go_wp2_with fail
    refine bodyPost_ret (zAq rfl _ _ (w.heap.size + 1) 43 _ (0,0) _ rfl (blk_put (blk_put X1.out 0 _ rfl) 1 _ rfl) Tryz.underlying43 rfl (by kernel_rfl)) rfl ?_
    exact ⟨by rw [HV.out]; rfl,(HB1.out.setCell (by show w.heap.size ≤ w.heap.size + 1; omega) _).setCell (by show w.heap.size ≤ w.heap.size + 1; omega) _⟩
   ·have HV : Hid (r = (0,0,false)):=Lib.hid (by rw [hr,h2]; unfold unG; rw [if_neg (fun h => absurd h.1 (by decide)),if_neg (fun h => hk h.2)])
    have hkb : (k == 2) = false:=beq_eq_false_iff_ne.2 hk
    clear hr h1
    go_enter Tryz.func40,Tryz.ntmps40
    go_wp2_with fail
    refine bodyPost_ret (zAq rfl _ _ (w.heap.size + 1) 43 #[.int .i64 0,.int .i64 0] (0,0) _ rfl (nb1 w _ _) Tryz.underlying43 rfl (by kernel_rfl)) rfl ?_
    exact ⟨by rw [HV.out]; rfl,zAa (zAa (Below.refl _ _) _) _⟩
  ·have HV : Hid (r = (0,0,false)):=Lib.hid (by rw [hr]; unfold unG; rw [if_neg (fun h => h1 h.1),if_neg (fun h => h2 h.1)])
   have h2b:=eq_lit s _ h2
   clear hr
   go_enter Tryz.func40,Tryz.ntmps40
   go_wp2_with fail
   refine bodyPost_ret (zAq rfl _ _ (w.heap.size + 1) 43 #[.int .i64 0,.int .i64 0] (0,0) _ rfl (nb1 w _ _) Tryz.underlying43 rfl (by kernel_rfl)) rfl ?_
   exact ⟨by rw [HV.out]; rfl,zAa (zAa (Below.refl _ _) _) _⟩
theorem ref9_Unary_is (s : ByteArray) (k n : Int) (r : Int × Int × Bool) (hr : r = unG s.toList k n) (w : World) : Calls Tryz.prog 49 #[.string s,.agg #[.int .i64 k,.int .i64 n]] w fun e w' => e = .returned (.tuple #[.agg #[.int .i64 r.1,.int .i64 r.2.1],.bool r.2.2]) ∧ Below w.heap.size w w':=by
 obtain ⟨W0,hW0⟩ : ∃ W0,W0 = ((w).alloc (.cells #[.int .i64 k,.int .i64 n] 49)).alloc (.cells #[.int .i64 0,.int .i64 0] 49):=⟨_,rfl⟩
 have HB0 : Hid (Below w.heap.size w W0):=Lib.hid (by rw [hW0]; exact zAa (zAa (Below.refl _ _) _) _)
 have X0 : Hid (W0.heap[w.heap.size + 1]? = some (.cells #[.int .i64 0,.int .i64 0] 49 (0,0))):=Lib.hid (by rw [hW0]; exact nb1 w _ _)
 have HW0:=Lib.hid hW0
 clear hW0
 by_cases h1 : s.toList = [45]
 ·by_cases hk : k = 1
  ·have HV : Hid (r = (1,wrap64 (-n),true)):=Lib.hid (by rw [hr,h1,hk]; rfl)
   subst hk
   clear hr
   go_enter Tryz.func49,Tryz.ntmps49
   go_wp2_with fail
   refine bodyPost_ret (zAq rfl _ _ (w.heap.size + 1) 49 #[.int .i64 1,.int .i64 (wrap64 (-n))] (0,0) _ rfl (nb1 w _ _) Tryz.underlying49 rfl (by kernel_rfl)) rfl ?_
   exact ⟨by rw [HV.out]; rfl,zAa (zAa (Below.refl _ _) _) _⟩
  ·have HV : Hid (r = (0,0,false)):=Lib.hid (by rw [hr,h1]; unfold unG; rw [if_neg (fun h => hk h.2),if_neg (fun h => absurd h.1 (by decide))])
   have hkb : (k == 1) = false:=beq_eq_false_iff_ne.2 hk
   clear hr
   go_enter Tryz.func49,Tryz.ntmps49
   go_wp2_with fail
   refine bodyPost_ret (zAq rfl _ _ (w.heap.size + 1) 49 #[.int .i64 0,.int .i64 0] (0,0) _ rfl (nb1 w _ _) Tryz.underlying49 rfl (by kernel_rfl)) rfl ?_
   exact ⟨by rw [HV.out]; rfl,zAa (zAa (Below.refl _ _) _) _⟩
 ·have h1b:=eq_lit s _ h1
  by_cases h2 : s.toList = [33]
  ·by_cases hk : k = 2
   ·have HV : Hid (r = (2,tN (n == 0),true)):=Lib.hid (by rw [hr,h2,hk]; rfl)
    subst hk
    clear hr h1
    go_enter Tryz.func49,Tryz.ntmps49
    go_wp2_with fail
    rw [← HW0.out]
    refine (of9_is (n == 0) W0).mono ?_
    rintro e_ W1 ⟨rfl,hb_⟩
    have HB1:=Lib.hid (zAd HB0.out hb_)
    have X1:=Lib.hid (zAe X0.out hb_)
    have d0:=bc_ X1.out 0
    have d1:=bc_ X1.out 1
    have f0:=zAc X1.out 0
    have f1:=zAc X1.out 1
    clear hb_
    go_wp2_with fail
    refine bodyPost_ret (zAq rfl _ _ (w.heap.size + 1) 49 _ (0,0) _ rfl (blk_put (blk_put X1.out 0 _ rfl) 1 _ rfl) Tryz.underlying49 rfl (by kernel_rfl)) rfl ?_
    exact ⟨by rw [HV.out]; rfl,(HB1.out.setCell (by show w.heap.size ≤ w.heap.size + 1; omega) _).setCell (by show w.heap.size ≤ w.heap.size + 1; omega) _⟩
   ·have HV : Hid (r = (0,0,false)):=Lib.hid (by rw [hr,h2]; unfold unG; rw [if_neg (fun h => absurd h.1 (by decide)),if_neg (fun h => hk h.2)])
    have hkb : (k == 2) = false:=beq_eq_false_iff_ne.2 hk
    clear hr h1
    go_enter Tryz.func49,Tryz.ntmps49
    go_wp2_with fail
    refine bodyPost_ret (zAq rfl _ _ (w.heap.size + 1) 49 #[.int .i64 0,.int .i64 0] (0,0) _ rfl (nb1 w _ _) Tryz.underlying49 rfl (by kernel_rfl)) rfl ?_
    exact ⟨by rw [HV.out]; rfl,zAa (zAa (Below.refl _ _) _) _⟩
  ·have HV : Hid (r = (0,0,false)):=Lib.hid (by rw [hr]; unfold unG; rw [if_neg (fun h => h1 h.1),if_neg (fun h => h2 h.1)])
   have h2b:=eq_lit s _ h2
   clear hr
   go_enter Tryz.func49,Tryz.ntmps49
   go_wp2_with fail
   refine bodyPost_ret (zAq rfl _ _ (w.heap.size + 1) 49 #[.int .i64 0,.int .i64 0] (0,0) _ rfl (nb1 w _ _) Tryz.underlying49 rfl (by kernel_rfl)) rfl ?_
   exact ⟨by rw [HV.out]; rfl,zAa (zAa (Below.refl _ _) _) _⟩
def sameG (s : List UInt8) (b : Bool) : Int × Int × Int × Bool:=if s = [61,61] then (2,tN b,0,true) else if s = [33,61] then (2,tN (!b),0,true) else (0,0,0,false)
def numG (s : List UInt8) (a b : Int) : Int × Int × Int × Bool :=
 if s = [43] then (1,wrap64 (a + b),0,true) else if s = [45] then (1,wrap64 (a - b),0,true) else if s = [42] then (1,wrap64 (a * b),0,true)
 else if s = [47] then (if b = 0 then (0,0,1,true) else (1,wrap64 (a.tdiv b),0,true)) else if s = [37] then (if b = 0 then (0,0,1,true) else (1,a.tmod b,0,true))
 else if s = [60] then (2,tN (decide (a < b)),0,true) else if s = [60,61] then (2,tN (decide (a ≤ b)),0,true) else if s = [62] then (2,tN (decide (b < a)),0,true) else if s = [62,61] then (2,tN (decide (b ≤ a)),0,true)
 else sameG s (a == b)
def boolG (s : List UInt8) (x y : Bool) : Int × Int × Int × Bool:=if s = [38,38] then (2,tN (x && y),0,true) else if s = [124,124] then (2,tN (x || y),0,true) else sameG s (x == y)
def binG (s : List UInt8) (k n k' n' : Int) : Int × Int × Int × Bool :=
 if k = 1 ∧ k' = 1 then numG s n n' else if k ≠ 2 ∨ k' ≠ 2 then (0,0,0,false) else boolG s (n != 0) (n' != 0)
theorem same_is (s : ByteArray) (b : Bool) (r : Int × Int × Int × Bool) (hr : r = sameG s.toList b) (w : World) : Calls Tryz.prog 26 #[.string s,.bool b] w fun e w' => e = .returned (.tuple #[.agg #[.int .i64 r.1,.int .i64 r.2.1],.int .i64 r.2.2.1,.bool r.2.2.2]) ∧ Below w.heap.size w w':=by
 obtain ⟨W0,hW0⟩ : ∃ W0,W0 = (w).alloc (.cells #[.int .i64 0,.int .i64 0] 43):=⟨_,rfl⟩
 have HB0 : Hid (Below w.heap.size w W0):=Lib.hid (by rw [hW0]; exact zAa (Below.refl _ _) _)
 have X0 : Hid (W0.heap[w.heap.size]? = some (.cells #[.int .i64 0,.int .i64 0] 43 (0,0))):=Lib.hid (by rw [hW0]; exact blk_new w _)
 have HW0:=Lib.hid hW0
 clear hW0
 by_cases h1 : s.toList = [61,61]
 ·have HV : Hid (r = sameG [61,61] b):=Lib.hid (by rw [hr,h1])
  clear hr
  go_enter Tryz.func26,Tryz.ntmps26
  go_wp2_with fail
  rw [← HW0.out]
  refine (zBy b W0).mono ?_
  rintro e_ W1 ⟨rfl,hb_⟩
  have HB1:=Lib.hid (zAd HB0.out hb_)
  have X1:=Lib.hid (zAe X0.out hb_)
  have d0:=bc_ X1.out 0
  have d1:=bc_ X1.out 1
  have f0:=zAc X1.out 0
  have f1:=zAc X1.out 1
  clear hb_
  go_wp2_with fail
  refine bodyPost_ret (zAr rfl _ _ (w.heap.size) 43 _ (0,0) _ rfl (blk_put (blk_put X1.out 0 _ rfl) 1 _ rfl) Tryz.underlying43 rfl (by kernel_rfl)) rfl ?_
  exact ⟨by rw [HV.out]; rfl,(HB1.out.setCell (by show w.heap.size ≤ w.heap.size; omega) _).setCell (by show w.heap.size ≤ w.heap.size; omega) _⟩
 ·have h1b:=eq_lit s _ h1
  by_cases h2 : s.toList = [33,61]
  ·have HV : Hid (r = sameG [33,61] b):=Lib.hid (by rw [hr,h2])
   clear hr h1
   go_enter Tryz.func26,Tryz.ntmps26
   go_wp2_with fail
   rw [← HW0.out]
   refine (zBy (!b) W0).mono ?_
   rintro e_ W1 ⟨rfl,hb_⟩
   have HB1:=Lib.hid (zAd HB0.out hb_)
   have X1:=Lib.hid (zAe X0.out hb_)
   have d0:=bc_ X1.out 0
   have d1:=bc_ X1.out 1
   have f0:=zAc X1.out 0
   have f1:=zAc X1.out 1
   clear hb_
   go_wp2_with fail
   refine bodyPost_ret (zAr rfl _ _ (w.heap.size) 43 _ (0,0) _ rfl (blk_put (blk_put X1.out 0 _ rfl) 1 _ rfl) Tryz.underlying43 rfl (by kernel_rfl)) rfl ?_
   exact ⟨by rw [HV.out]; rfl,(HB1.out.setCell (by show w.heap.size ≤ w.heap.size; omega) _).setCell (by show w.heap.size ≤ w.heap.size; omega) _⟩
  ·have HV : Hid (r = (0,0,0,false)):=Lib.hid (by rw [hr]; unfold sameG; rw [if_neg h1,if_neg h2])
   have h2b:=eq_lit s _ h2
   clear hr
   go_enter Tryz.func26,Tryz.ntmps26
   go_wp2_with fail
   refine bodyPost_ret (zAr rfl _ _ (w.heap.size) 43 #[.int .i64 0,.int .i64 0] (0,0) _ rfl (blk_new w _) Tryz.underlying43 rfl (by kernel_rfl)) rfl ?_
   exact ⟨by rw [HV.out]; rfl,zAa (Below.refl _ _) _⟩
theorem ints_is (s : ByteArray) (a b : Int) (r : Int × Int × Int × Bool) (hr : r = numG s.toList a b) (w : World) : Calls Tryz.prog 24 #[.string s,.int .i64 a,.int .i64 b] w fun e w' => e = .returned (.tuple #[.agg #[.int .i64 r.1,.int .i64 r.2.1],.int .i64 r.2.2.1,.bool r.2.2.2]) ∧ Below w.heap.size w w':=by
 obtain ⟨W0,hW0⟩ : ∃ W0,W0 = (w).alloc (.cells #[.int .i64 0,.int .i64 0] 43):=⟨_,rfl⟩
 have HB0 : Hid (Below w.heap.size w W0):=Lib.hid (by rw [hW0]; exact zAa (Below.refl _ _) _)
 have X0 : Hid (W0.heap[w.heap.size]? = some (.cells #[.int .i64 0,.int .i64 0] 43 (0,0))):=Lib.hid (by rw [hW0]; exact blk_new w _)
 have HW0:=Lib.hid hW0
 clear hW0
 by_cases h0 : s.toList = [43]
 ·have HV : Hid (r = numG [43] a b):=Lib.hid (by rw [hr,h0])
  clear hr
  go_enter Tryz.func24,Tryz.ntmps24
  go_wp2_with fail
  rw [← HW0.out]
  refine (zBw (wrap64 (a + b)) W0).mono ?_
  rintro e_ W1 ⟨rfl,hb_⟩
  have HB1:=Lib.hid (zAd HB0.out hb_)
  have X1:=Lib.hid (zAe X0.out hb_)
  have d0:=bc_ X1.out 0
  have d1:=bc_ X1.out 1
  have f0:=zAc X1.out 0
  have f1:=zAc X1.out 1
  clear hb_
  go_wp2_with fail
  refine bodyPost_ret (zAr rfl _ _ (w.heap.size) 43 _ (0,0) _ rfl (blk_put (blk_put X1.out 0 _ rfl) 1 _ rfl) Tryz.underlying43 rfl (by kernel_rfl)) rfl ?_
  exact ⟨by rw [HV.out]; rfl,(HB1.out.setCell (by show w.heap.size ≤ w.heap.size; omega) _).setCell (by show w.heap.size ≤ w.heap.size; omega) _⟩
 have e0:=eq_lit s _ h0
 by_cases h1 : s.toList = [45]
 ·have HV : Hid (r = numG [45] a b):=Lib.hid (by rw [hr,h1])
  clear hr h0
  go_enter Tryz.func24,Tryz.ntmps24
  go_wp2_with fail
  rw [← HW0.out]
  refine (zBw (wrap64 (a - b)) W0).mono ?_
  rintro e_ W1 ⟨rfl,hb_⟩
  have HB1:=Lib.hid (zAd HB0.out hb_)
  have X1:=Lib.hid (zAe X0.out hb_)
  have d0:=bc_ X1.out 0
  have d1:=bc_ X1.out 1
  have f0:=zAc X1.out 0
  have f1:=zAc X1.out 1
  clear hb_
  go_wp2_with fail
  refine bodyPost_ret (zAr rfl _ _ (w.heap.size) 43 _ (0,0) _ rfl (blk_put (blk_put X1.out 0 _ rfl) 1 _ rfl) Tryz.underlying43 rfl (by kernel_rfl)) rfl ?_
  exact ⟨by rw [HV.out]; rfl,(HB1.out.setCell (by show w.heap.size ≤ w.heap.size; omega) _).setCell (by show w.heap.size ≤ w.heap.size; omega) _⟩
 have e1:=eq_lit s _ h1
 by_cases h2 : s.toList = [42]
 ·have HV : Hid (r = numG [42] a b):=Lib.hid (by rw [hr,h2])
  clear hr h0 h1
  go_enter Tryz.func24,Tryz.ntmps24
  go_wp2_with fail
  rw [← HW0.out]
  refine (zBw (wrap64 (a * b)) W0).mono ?_
  rintro e_ W1 ⟨rfl,hb_⟩
  have HB1:=Lib.hid (zAd HB0.out hb_)
  have X1:=Lib.hid (zAe X0.out hb_)
  have d0:=bc_ X1.out 0
  have d1:=bc_ X1.out 1
  have f0:=zAc X1.out 0
  have f1:=zAc X1.out 1
  clear hb_
  go_wp2_with fail
  refine bodyPost_ret (zAr rfl _ _ (w.heap.size) 43 _ (0,0) _ rfl (blk_put (blk_put X1.out 0 _ rfl) 1 _ rfl) Tryz.underlying43 rfl (by kernel_rfl)) rfl ?_
  exact ⟨by rw [HV.out]; rfl,(HB1.out.setCell (by show w.heap.size ≤ w.heap.size; omega) _).setCell (by show w.heap.size ≤ w.heap.size; omega) _⟩
 have e2:=eq_lit s _ h2
 by_cases h3 : s.toList = [47]
 ·have HV : Hid (r = numG [47] a b):=Lib.hid (by rw [hr,h3])
  clear hr h0 h1 h2
  by_cases hb : b = 0
  ·subst hb
   go_enter Tryz.func24,Tryz.ntmps24
   go_wp2_with fail
   refine bodyPost_ret (zAr rfl _ _ (w.heap.size) 43 #[.int .i64 0,.int .i64 0] (0,0) _ rfl (blk_new w _) Tryz.underlying43 rfl (by kernel_rfl)) rfl ?_
   exact ⟨by rw [HV.out]; rfl,zAa (Below.refl _ _) _⟩
  ·have hbb : (b == 0) = false:=beq_eq_false_iff_ne.2 hb
   have HV2 : Hid (r = (1,wrap64 (a.tdiv b),0,true)):=Lib.hid (by rw [HV.out]; exact if_neg hb)
   go_enter Tryz.func24,Tryz.ntmps24
   go_wp2_with fail
   rw [← HW0.out]
   refine (zBw (wrap64 (a.tdiv b)) W0).mono ?_
   rintro e_ W1 ⟨rfl,hb_⟩
   have HB1:=Lib.hid (zAd HB0.out hb_)
   have X1:=Lib.hid (zAe X0.out hb_)
   have d0:=bc_ X1.out 0
   have d1:=bc_ X1.out 1
   have f0:=zAc X1.out 0
   have f1:=zAc X1.out 1
   clear hb_
   go_wp2_with fail
   refine bodyPost_ret (zAr rfl _ _ (w.heap.size) 43 _ (0,0) _ rfl (blk_put (blk_put X1.out 0 _ rfl) 1 _ rfl) Tryz.underlying43 rfl (by kernel_rfl)) rfl ?_
   exact ⟨by rw [HV2.out]; rfl,(HB1.out.setCell (by show w.heap.size ≤ w.heap.size; omega) _).setCell (by show w.heap.size ≤ w.heap.size; omega) _⟩
 have e3:=eq_lit s _ h3
 by_cases h4 : s.toList = [37]
 ·have HV : Hid (r = numG [37] a b):=Lib.hid (by rw [hr,h4])
  clear hr h0 h1 h2 h3
  by_cases hb : b = 0
  ·subst hb
   go_enter Tryz.func24,Tryz.ntmps24
   go_wp2_with fail
   refine bodyPost_ret (zAr rfl _ _ (w.heap.size) 43 #[.int .i64 0,.int .i64 0] (0,0) _ rfl (blk_new w _) Tryz.underlying43 rfl (by kernel_rfl)) rfl ?_
   exact ⟨by rw [HV.out]; rfl,zAa (Below.refl _ _) _⟩
  ·have hbb : (b == 0) = false:=beq_eq_false_iff_ne.2 hb
   have HV2 : Hid (r = (1,a.tmod b,0,true)):=Lib.hid (by rw [HV.out]; exact if_neg hb)
   go_enter Tryz.func24,Tryz.ntmps24
   go_wp2_with fail
   rw [← HW0.out]
   refine (zBw (a.tmod b) W0).mono ?_
   rintro e_ W1 ⟨rfl,hb_⟩
   have HB1:=Lib.hid (zAd HB0.out hb_)
   have X1:=Lib.hid (zAe X0.out hb_)
   have d0:=bc_ X1.out 0
   have d1:=bc_ X1.out 1
   have f0:=zAc X1.out 0
   have f1:=zAc X1.out 1
   clear hb_
   go_wp2_with fail
   refine bodyPost_ret (zAr rfl _ _ (w.heap.size) 43 _ (0,0) _ rfl (blk_put (blk_put X1.out 0 _ rfl) 1 _ rfl) Tryz.underlying43 rfl (by kernel_rfl)) rfl ?_
   exact ⟨by rw [HV2.out]; rfl,(HB1.out.setCell (by show w.heap.size ≤ w.heap.size; omega) _).setCell (by show w.heap.size ≤ w.heap.size; omega) _⟩
 have e4:=eq_lit s _ h4
 by_cases h5 : s.toList = [60]
 ·have HV : Hid (r = numG [60] a b):=Lib.hid (by rw [hr,h5])
  clear hr h0 h1 h2 h3 h4
  go_enter Tryz.func24,Tryz.ntmps24
  go_wp2_with fail
  rw [← HW0.out]
  refine (zBy (decide (a < b)) W0).mono ?_
  rintro e_ W1 ⟨rfl,hb_⟩
  have HB1:=Lib.hid (zAd HB0.out hb_)
  have X1:=Lib.hid (zAe X0.out hb_)
  have d0:=bc_ X1.out 0
  have d1:=bc_ X1.out 1
  have f0:=zAc X1.out 0
  have f1:=zAc X1.out 1
  clear hb_
  go_wp2_with fail
  refine bodyPost_ret (zAr rfl _ _ (w.heap.size) 43 _ (0,0) _ rfl (blk_put (blk_put X1.out 0 _ rfl) 1 _ rfl) Tryz.underlying43 rfl (by kernel_rfl)) rfl ?_
  exact ⟨by rw [HV.out]; rfl,(HB1.out.setCell (by show w.heap.size ≤ w.heap.size; omega) _).setCell (by show w.heap.size ≤ w.heap.size; omega) _⟩
 have e5:=eq_lit s _ h5
 by_cases h6 : s.toList = [60,61]
 ·have HV : Hid (r = numG [60,61] a b):=Lib.hid (by rw [hr,h6])
  clear hr h0 h1 h2 h3 h4 h5
  go_enter Tryz.func24,Tryz.ntmps24
  go_wp2_with fail
  rw [← HW0.out]
  refine (zBy (decide (a ≤ b)) W0).mono ?_
  rintro e_ W1 ⟨rfl,hb_⟩
  have HB1:=Lib.hid (zAd HB0.out hb_)
  have X1:=Lib.hid (zAe X0.out hb_)
  have d0:=bc_ X1.out 0
  have d1:=bc_ X1.out 1
  have f0:=zAc X1.out 0
  have f1:=zAc X1.out 1
  clear hb_
  go_wp2_with fail
  refine bodyPost_ret (zAr rfl _ _ (w.heap.size) 43 _ (0,0) _ rfl (blk_put (blk_put X1.out 0 _ rfl) 1 _ rfl) Tryz.underlying43 rfl (by kernel_rfl)) rfl ?_
  exact ⟨by rw [HV.out]; rfl,(HB1.out.setCell (by show w.heap.size ≤ w.heap.size; omega) _).setCell (by show w.heap.size ≤ w.heap.size; omega) _⟩
 have e6:=eq_lit s _ h6
 by_cases h7 : s.toList = [62]
 ·have HV : Hid (r = numG [62] a b):=Lib.hid (by rw [hr,h7])
  clear hr h0 h1 h2 h3 h4 h5 h6
  go_enter Tryz.func24,Tryz.ntmps24
  go_wp2_with fail
  rw [← HW0.out]
  refine (zBy (decide (b < a)) W0).mono ?_
  rintro e_ W1 ⟨rfl,hb_⟩
  have HB1:=Lib.hid (zAd HB0.out hb_)
  have X1:=Lib.hid (zAe X0.out hb_)
  have d0:=bc_ X1.out 0
  have d1:=bc_ X1.out 1
  have f0:=zAc X1.out 0
  have f1:=zAc X1.out 1
  clear hb_
  go_wp2_with fail
  refine bodyPost_ret (zAr rfl _ _ (w.heap.size) 43 _ (0,0) _ rfl (blk_put (blk_put X1.out 0 _ rfl) 1 _ rfl) Tryz.underlying43 rfl (by kernel_rfl)) rfl ?_
  exact ⟨by rw [HV.out]; rfl,(HB1.out.setCell (by show w.heap.size ≤ w.heap.size; omega) _).setCell (by show w.heap.size ≤ w.heap.size; omega) _⟩
 have e7:=eq_lit s _ h7
 by_cases h8 : s.toList = [62,61]
 ·have HV : Hid (r = numG [62,61] a b):=Lib.hid (by rw [hr,h8])
  clear hr h0 h1 h2 h3 h4 h5 h6 h7
  go_enter Tryz.func24,Tryz.ntmps24
  go_wp2_with fail
  rw [← HW0.out]
  refine (zBy (decide (b ≤ a)) W0).mono ?_
  rintro e_ W1 ⟨rfl,hb_⟩
  have HB1:=Lib.hid (zAd HB0.out hb_)
  have X1:=Lib.hid (zAe X0.out hb_)
  have d0:=bc_ X1.out 0
  have d1:=bc_ X1.out 1
  have f0:=zAc X1.out 0
  have f1:=zAc X1.out 1
  clear hb_
  go_wp2_with fail
  refine bodyPost_ret (zAr rfl _ _ (w.heap.size) 43 _ (0,0) _ rfl (blk_put (blk_put X1.out 0 _ rfl) 1 _ rfl) Tryz.underlying43 rfl (by kernel_rfl)) rfl ?_
  exact ⟨by rw [HV.out]; rfl,(HB1.out.setCell (by show w.heap.size ≤ w.heap.size; omega) _).setCell (by show w.heap.size ≤ w.heap.size; omega) _⟩
 have e8:=eq_lit s _ h8
 have HS:=Lib.hid (same_is s (a == b) r (by rw [hr]; unfold numG; rw [if_neg h0,if_neg h1,if_neg h2,if_neg h3,if_neg h4,if_neg h5,if_neg h6,if_neg h7,if_neg h8]) W0)
 clear hr
 go_enter Tryz.func24,Tryz.ntmps24
 go_wp2_with fail
 rw [← HW0.out]
 refine (HS.out).mono ?_
 rintro e_ W1 ⟨rfl,hb_⟩
 have HB1:=Lib.hid (zAd HB0.out hb_)
 have X1:=Lib.hid (zAe X0.out hb_)
 have d0:=bc_ X1.out 0
 have d1:=bc_ X1.out 1
 have f0:=zAc X1.out 0
 have f1:=zAc X1.out 1
 clear hb_
 go_wp2_with fail
 refine bodyPost_ret (zAr rfl _ _ (w.heap.size) 43 #[.int .i64 r.1,.int .i64 r.2.1] (0,0) _ rfl (blk_put (blk_put X1.out 0 _ rfl) 1 _ rfl) Tryz.underlying43 rfl (by kernel_rfl)) rfl ?_
 exact ⟨rfl,(HB1.out.setCell (by show w.heap.size ≤ w.heap.size; omega) _).setCell (by show w.heap.size ≤ w.heap.size; omega) _⟩
theorem value_Binary_is (s : ByteArray) (k n k' n' : Int) (r : Int × Int × Int × Bool) (hr : r = binG s.toList k n k' n') (w : World) : Calls Tryz.prog 10 #[.string s,.agg #[.int .i64 k,.int .i64 n],.agg #[.int .i64 k',.int .i64 n']] w fun e w' => e = .returned (.tuple #[.agg #[.int .i64 r.1,.int .i64 r.2.1],.int .i64 r.2.2.1,.bool r.2.2.2]) ∧ Below w.heap.size w w':=by
 obtain ⟨W0,hW0⟩ : ∃ W0,W0 = (((w).alloc (.cells #[.int .i64 k,.int .i64 n] 43)).alloc (.cells #[.int .i64 k',.int .i64 n'] 43)).alloc (.cells #[.int .i64 0,.int .i64 0] 43):=⟨_,rfl⟩
 have HB0 : Hid (Below w.heap.size w W0):=Lib.hid (by rw [hW0]; exact zAa (zAa (zAa (Below.refl _ _) _) _) _)
 have X0 : Hid (W0.heap[w.heap.size + 1 + 1]? = some (.cells #[.int .i64 0,.int .i64 0] 43 (0,0))):=Lib.hid (by rw [hW0]; exact nb2 w _ _ _)
 have HW0:=Lib.hid hW0
 clear hW0
 by_cases h1 : k = 1 ∧ k' = 1
 ·have HS:=Lib.hid (ints_is s n n' r (by rw [hr]; unfold binG; rw [if_pos h1]) W0)
  obtain ⟨rfl,rfl⟩:=h1
  clear hr
  go_enter Tryz.func10,Tryz.ntmps10
  go_wp2_with fail
  rw [← HW0.out]
  refine (HS.out).mono ?_
  rintro e_ W1 ⟨rfl,hb_⟩
  have HB1:=Lib.hid (zAd HB0.out hb_)
  have X1:=Lib.hid (zAe X0.out hb_)
  have d0:=bc_ X1.out 0
  have d1:=bc_ X1.out 1
  have f0:=zAc X1.out 0
  have f1:=zAc X1.out 1
  clear hb_
  go_wp2_with fail
  refine bodyPost_ret (zAr rfl _ _ (w.heap.size + 1 + 1) 43 #[.int .i64 r.1,.int .i64 r.2.1] (0,0) _ rfl (blk_put (blk_put X1.out 0 _ rfl) 1 _ rfl) Tryz.underlying43 rfl (by kernel_rfl)) rfl ?_
  exact ⟨rfl,(HB1.out.setCell (by show w.heap.size ≤ w.heap.size + 1 + 1; omega) _).setCell (by show w.heap.size ≤ w.heap.size + 1 + 1; omega) _⟩
 by_cases h2 : k ≠ 2 ∨ k' ≠ 2
 ·have HV : Hid (r = (0,0,0,false)):=Lib.hid (by rw [hr]; unfold binG; rw [if_neg h1,if_pos h2])
  have hc : (¬ k = 1 ∧ ¬ k = 2) ∨ (k = 2 ∧ ¬ k' = 2) ∨ (k = 1 ∧ ¬ k' = 1):=by omega
  clear hr h1 h2
  rcases hc with ⟨a,b⟩ | ⟨rfl,b⟩ | ⟨rfl,b⟩
  ·have ab : (k == 1) = false:=beq_eq_false_iff_ne.2 a
   have bb : (k == 2) = false:=beq_eq_false_iff_ne.2 b
   go_enter Tryz.func10,Tryz.ntmps10
   go_wp2_with fail
   refine bodyPost_ret (zAr rfl _ _ (w.heap.size + 1 + 1) 43 #[.int .i64 0,.int .i64 0] (0,0) _ rfl (nb2 w _ _ _) Tryz.underlying43 rfl (by kernel_rfl)) rfl ?_
   exact ⟨by rw [HV.out]; rfl,zAa (zAa (zAa (Below.refl _ _) _) _) _⟩
  ·have bb : (k' == 2) = false:=beq_eq_false_iff_ne.2 b
   go_enter Tryz.func10,Tryz.ntmps10
   go_wp2_with fail
   refine bodyPost_ret (zAr rfl _ _ (w.heap.size + 1 + 1) 43 #[.int .i64 0,.int .i64 0] (0,0) _ rfl (nb2 w _ _ _) Tryz.underlying43 rfl (by kernel_rfl)) rfl ?_
   exact ⟨by rw [HV.out]; rfl,zAa (zAa (zAa (Below.refl _ _) _) _) _⟩
  ·have bb : (k' == 1) = false:=beq_eq_false_iff_ne.2 b
   go_enter Tryz.func10,Tryz.ntmps10
   go_wp2_with fail
   refine bodyPost_ret (zAr rfl _ _ (w.heap.size + 1 + 1) 43 #[.int .i64 0,.int .i64 0] (0,0) _ rfl (nb2 w _ _ _) Tryz.underlying43 rfl (by kernel_rfl)) rfl ?_
   exact ⟨by rw [HV.out]; rfl,zAa (zAa (zAa (Below.refl _ _) _) _) _⟩
 obtain ⟨rfl,rfl⟩ : k = 2 ∧ k' = 2:=by omega
 have hr2 : r = boolG s.toList (n != 0) (n' != 0):=by rw [hr]; unfold binG; rw [if_neg h1,if_neg h2]
 clear hr h1 h2
 by_cases h0 : s.toList = [38,38]
 ·have HV : Hid (r = boolG [38,38] (n != 0) (n' != 0)):=Lib.hid (by rw [hr2,h0])
  clear hr2
  cases hx : (n != 0) <;> cases hy : (n' != 0) <;> (
   rw [hx,hy] at HV
   go_enter Tryz.func10,Tryz.ntmps10
   go_wp2_with fail
   go_quiet (fail)
   go_wp2_with fail
   rw [← HW0.out]
   obtain ⟨W9,hW9⟩ : ∃ W9,W9 = W0.drewN nq:=⟨_,rfl⟩
   have HB9 : Hid (Below w.heap.size w W9):=Lib.hid (by rw [hW9]; exact zAf HB0.out _)
   have X9:=Lib.hid (show W9.heap[w.heap.size + 1 + 1]? = some (.cells #[.int .i64 0,.int .i64 0] 43 (0,0)) by rw [hW9]; exact X0.out)
   rw [← hW9]
   clear hW9
   refine (zBy _ _).mono ?_
   rintro e_ W1 ⟨rfl,hb_⟩
   have HB1:=Lib.hid (zAd HB9.out hb_)
   have X1:=Lib.hid (zAe X9.out hb_)
   have d0:=bc_ X1.out 0
   have d1:=bc_ X1.out 1
   have f0:=zAc X1.out 0
   have f1:=zAc X1.out 1
   clear hb_
   go_wp2_with fail
   refine bodyPost_ret (zAr rfl _ _ (w.heap.size + 1 + 1) 43 _ (0,0) _ rfl (blk_put (blk_put X1.out 0 _ rfl) 1 _ rfl) Tryz.underlying43 rfl (by kernel_rfl)) rfl ?_
   exact ⟨by rw [HV.out]; rfl,(HB1.out.setCell (by show w.heap.size ≤ w.heap.size + 1 + 1; omega) _).setCell (by show w.heap.size ≤ w.heap.size + 1 + 1; omega) _⟩)
 have e0:=eq_lit s _ h0
 by_cases h1 : s.toList = [124,124]
 ·have HV : Hid (r = boolG [124,124] (n != 0) (n' != 0)):=Lib.hid (by rw [hr2,h1])
  clear hr2 h0
  cases hx : (n != 0) <;> cases hy : (n' != 0) <;> (
   rw [hx,hy] at HV
   go_enter Tryz.func10,Tryz.ntmps10
   go_wp2_with fail
   go_quiet (fail)
   go_wp2_with fail
   rw [← HW0.out]
   obtain ⟨W9,hW9⟩ : ∃ W9,W9 = W0.drewN nq:=⟨_,rfl⟩
   have HB9 : Hid (Below w.heap.size w W9):=Lib.hid (by rw [hW9]; exact zAf HB0.out _)
   have X9:=Lib.hid (show W9.heap[w.heap.size + 1 + 1]? = some (.cells #[.int .i64 0,.int .i64 0] 43 (0,0)) by rw [hW9]; exact X0.out)
   rw [← hW9]
   clear hW9
   refine (zBy _ _).mono ?_
   rintro e_ W1 ⟨rfl,hb_⟩
   have HB1:=Lib.hid (zAd HB9.out hb_)
   have X1:=Lib.hid (zAe X9.out hb_)
   have d0:=bc_ X1.out 0
   have d1:=bc_ X1.out 1
   have f0:=zAc X1.out 0
   have f1:=zAc X1.out 1
   clear hb_
   go_wp2_with fail
   refine bodyPost_ret (zAr rfl _ _ (w.heap.size + 1 + 1) 43 _ (0,0) _ rfl (blk_put (blk_put X1.out 0 _ rfl) 1 _ rfl) Tryz.underlying43 rfl (by kernel_rfl)) rfl ?_
   exact ⟨by rw [HV.out]; rfl,(HB1.out.setCell (by show w.heap.size ≤ w.heap.size + 1 + 1; omega) _).setCell (by show w.heap.size ≤ w.heap.size + 1 + 1; omega) _⟩)
 have e1:=eq_lit s _ h1
 have hr3 : r = sameG s.toList ((n != 0) == (n' != 0)):=by rw [hr2]; unfold boolG; rw [if_neg h0,if_neg h1]
 clear hr2 h0 h1
 cases hx : (n != 0) <;> cases hy : (n' != 0) <;> (
   rw [hx,hy] at hr3
   have HS:=Lib.hid (fun W => same_is s _ r hr3 W)
   clear hr3
   go_enter Tryz.func10,Tryz.ntmps10
   go_wp2_with fail
   go_quiet (fail)
   go_wp2_with fail
   rw [← HW0.out]
   obtain ⟨W9,hW9⟩ : ∃ W9,W9 = W0.drewN nq:=⟨_,rfl⟩
   have HB9 : Hid (Below w.heap.size w W9):=Lib.hid (by rw [hW9]; exact zAf HB0.out _)
   have X9:=Lib.hid (show W9.heap[w.heap.size + 1 + 1]? = some (.cells #[.int .i64 0,.int .i64 0] 43 (0,0)) by rw [hW9]; exact X0.out)
   rw [← hW9]
   clear hW9
   refine (HS.out _).mono ?_
   rintro e_ W1 ⟨rfl,hb_⟩
   have HB1:=Lib.hid (zAd HB9.out hb_)
   have X1:=Lib.hid (zAe X9.out hb_)
   have d0:=bc_ X1.out 0
   have d1:=bc_ X1.out 1
   have f0:=zAc X1.out 0
   have f1:=zAc X1.out 1
   clear hb_
   go_wp2_with fail
   refine bodyPost_ret (zAr rfl _ _ (w.heap.size + 1 + 1) 43 #[.int .i64 r.1,.int .i64 r.2.1] (0,0) _ rfl (blk_put (blk_put X1.out 0 _ rfl) 1 _ rfl) Tryz.underlying43 rfl (by kernel_rfl)) rfl ?_
   exact ⟨rfl,(HB1.out.setCell (by show w.heap.size ≤ w.heap.size + 1 + 1; omega) _).setCell (by show w.heap.size ≤ w.heap.size + 1 + 1; omega) _⟩)
theorem un_is (s : ByteArray) (k n u1 u2 : Int) (u3 : Bool) (h : (u1,u2,u3) = unG s.toList k n) (w : World) : Calls Tryz.prog 40 #[.string s,.agg #[.int .i64 k,.int .i64 n]] w fun e w' => e = .returned (.tuple #[.agg #[.int .i64 u1,.int .i64 u2],.bool u3]) ∧ Below w.heap.size w w':=value_Unary_is s k n _ h w
theorem bin_is (s : ByteArray) (k n k' n' u1 u2 u3 : Int) (u4 : Bool) (h : (u1,u2,u3,u4) = binG s.toList k n k' n') (w : World) : Calls Tryz.prog 10 #[.string s,.agg #[.int .i64 k,.int .i64 n],.agg #[.int .i64 k',.int .i64 n']] w fun e w' => e = .returned (.tuple #[.agg #[.int .i64 u1,.int .i64 u2],.int .i64 u3,.bool u4]) ∧ Below w.heap.size w w':=value_Binary_is s k n k' n' _ h w
end Go.Proofs.YtkhlfdcjgooogaaGreat.P
