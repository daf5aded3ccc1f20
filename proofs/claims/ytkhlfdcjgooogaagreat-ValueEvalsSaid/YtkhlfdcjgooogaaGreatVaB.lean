import Derived.Test.YtkhlfdcjgooogaaGreatWMore
import Derived.Test.YtkhlfdcjgooogaaGreatVbB
import Derived.Test.YtkhlfdcjgooogaaGreatPf29
set_option maxRecDepth 100000
set_option maxHeartbeats 16000000
set_option linter.unusedVariables false
set_option linter.unusedSimpArgs false
set_option linter.unusedSectionVars false
namespace Go.Proofs.YtkhlfdcjgooogaaGreat.P
open Go.RowKit Go.Proofs.YtkhlfdcjgooogaaGreatW.PrintWords Go.Proofs.YtkhlfdcjgooogaaGreatW.PrintLast Go.Proofs.YtkhlfdcjgooogaaGreatW.PrintMore
def heldG (s : List UInt8) (a b : Int) : Int × Int × Bool :=
 if s = [61,61] then (2,tN (a == b),true) else if s = [33,61] then (2,tN (a != b),true) else if s = [60] then (2,tN (decide (a < b)),true) else if s = [60,61] then (2,tN (decide (a ≤ b)),true)
 else if s = [62] then (2,tN (decide (b < a)),true) else if s = [62,61] then (2,tN (decide (b ≤ a)),true) else (0,0,false)
theorem held_is (s : ByteArray) (a b : Int) (r : Int × Int × Bool) (hr : r = heldG s.toList a b) (w : World) : Calls Tryz.prog 120 #[.string s,.int .i64 a,.int .i64 b] w fun e w' => e = .returned (.tuple #[.agg #[.int .i64 r.1,.int .i64 r.2.1],.bool r.2.2]) ∧ Below w.heap.size w w':=by
 obtain ⟨W0,hW0⟩ : ∃ W0,W0 = (w).alloc (.cells #[.int .i64 0,.int .i64 0] 49):=⟨_,rfl⟩
 have HB0 : Hid (Below w.heap.size w W0):=Lib.hid (by rw [hW0]; exact zAa (Below.refl _ _) _)
 have X0 : Hid (W0.heap[w.heap.size]? = some (.cells #[.int .i64 0,.int .i64 0] 49 (0,0))):=Lib.hid (by rw [hW0]; exact blk_new w _)
 have HW0:=Lib.hid hW0
 clear hW0
 by_cases h0 : s.toList = [61,61]
 ·have HV : Hid (r = heldG [61,61] a b):=Lib.hid (by rw [hr,h0])
  clear hr
  go_enter Tryz.func120,Tryz.ntmps120
  go_wp2_with fail
  rw [← HW0.out]
  refine (of9_is (a == b) W0).mono ?_
  rintro e_ W1 ⟨rfl,hb_⟩
  have HB1:=Lib.hid (zAd HB0.out hb_)
  have X1:=Lib.hid (zAe X0.out hb_)
  have d0:=bc_ X1.out 0
  have d1:=bc_ X1.out 1
  have f0:=zAc X1.out 0
  have f1:=zAc X1.out 1
  clear hb_
  go_wp2_with fail
  refine bodyPost_ret (zAq rfl _ _ (w.heap.size) 49 _ (0,0) _ rfl (blk_put (blk_put X1.out 0 _ rfl) 1 _ rfl) Tryz.underlying49 rfl (by kernel_rfl)) rfl ?_
  exact ⟨by rw [HV.out]; rfl,(HB1.out.setCell (by show w.heap.size ≤ w.heap.size; omega) _).setCell (by show w.heap.size ≤ w.heap.size; omega) _⟩
 have e0:=eq_lit s _ h0
 by_cases h1 : s.toList = [33,61]
 ·have HV : Hid (r = heldG [33,61] a b):=Lib.hid (by rw [hr,h1])
  clear hr h0
  go_enter Tryz.func120,Tryz.ntmps120
  go_wp2_with fail
  rw [← HW0.out]
  refine (of9_is (a != b) W0).mono ?_
  rintro e_ W1 ⟨rfl,hb_⟩
  have HB1:=Lib.hid (zAd HB0.out hb_)
  have X1:=Lib.hid (zAe X0.out hb_)
  have d0:=bc_ X1.out 0
  have d1:=bc_ X1.out 1
  have f0:=zAc X1.out 0
  have f1:=zAc X1.out 1
  clear hb_
  go_wp2_with fail
  refine bodyPost_ret (zAq rfl _ _ (w.heap.size) 49 _ (0,0) _ rfl (blk_put (blk_put X1.out 0 _ rfl) 1 _ rfl) Tryz.underlying49 rfl (by kernel_rfl)) rfl ?_
  exact ⟨by rw [HV.out]; rfl,(HB1.out.setCell (by show w.heap.size ≤ w.heap.size; omega) _).setCell (by show w.heap.size ≤ w.heap.size; omega) _⟩
 have e1:=eq_lit s _ h1
 by_cases h2 : s.toList = [60]
 ·have HV : Hid (r = heldG [60] a b):=Lib.hid (by rw [hr,h2])
  clear hr h0 h1
  go_enter Tryz.func120,Tryz.ntmps120
  go_wp2_with fail
  rw [← HW0.out]
  refine (of9_is (decide (a < b)) W0).mono ?_
  rintro e_ W1 ⟨rfl,hb_⟩
  have HB1:=Lib.hid (zAd HB0.out hb_)
  have X1:=Lib.hid (zAe X0.out hb_)
  have d0:=bc_ X1.out 0
  have d1:=bc_ X1.out 1
  have f0:=zAc X1.out 0
  have f1:=zAc X1.out 1
  clear hb_
  go_wp2_with fail
  refine bodyPost_ret (zAq rfl _ _ (w.heap.size) 49 _ (0,0) _ rfl (blk_put (blk_put X1.out 0 _ rfl) 1 _ rfl) Tryz.underlying49 rfl (by kernel_rfl)) rfl ?_
  exact ⟨by rw [HV.out]; rfl,(HB1.out.setCell (by show w.heap.size ≤ w.heap.size; omega) _).setCell (by show w.heap.size ≤ w.heap.size; omega) _⟩
 have e2:=eq_lit s _ h2
 by_cases h3 : s.toList = [60,61]
 ·have HV : Hid (r = heldG [60,61] a b):=Lib.hid (by rw [hr,h3])
  clear hr h0 h1 h2
  go_enter Tryz.func120,Tryz.ntmps120
  go_wp2_with fail
  rw [← HW0.out]
  refine (of9_is (decide (a ≤ b)) W0).mono ?_
  rintro e_ W1 ⟨rfl,hb_⟩
  have HB1:=Lib.hid (zAd HB0.out hb_)
  have X1:=Lib.hid (zAe X0.out hb_)
  have d0:=bc_ X1.out 0
  have d1:=bc_ X1.out 1
  have f0:=zAc X1.out 0
  have f1:=zAc X1.out 1
  clear hb_
  go_wp2_with fail
  refine bodyPost_ret (zAq rfl _ _ (w.heap.size) 49 _ (0,0) _ rfl (blk_put (blk_put X1.out 0 _ rfl) 1 _ rfl) Tryz.underlying49 rfl (by kernel_rfl)) rfl ?_
  exact ⟨by rw [HV.out]; rfl,(HB1.out.setCell (by show w.heap.size ≤ w.heap.size; omega) _).setCell (by show w.heap.size ≤ w.heap.size; omega) _⟩
 have e3:=eq_lit s _ h3
 by_cases h4 : s.toList = [62]
 ·have HV : Hid (r = heldG [62] a b):=Lib.hid (by rw [hr,h4])
  clear hr h0 h1 h2 h3
  go_enter Tryz.func120,Tryz.ntmps120
  go_wp2_with fail
  rw [← HW0.out]
  refine (of9_is (decide (b < a)) W0).mono ?_
  rintro e_ W1 ⟨rfl,hb_⟩
  have HB1:=Lib.hid (zAd HB0.out hb_)
  have X1:=Lib.hid (zAe X0.out hb_)
  have d0:=bc_ X1.out 0
  have d1:=bc_ X1.out 1
  have f0:=zAc X1.out 0
  have f1:=zAc X1.out 1
  clear hb_
  go_wp2_with fail
  refine bodyPost_ret (zAq rfl _ _ (w.heap.size) 49 _ (0,0) _ rfl (blk_put (blk_put X1.out 0 _ rfl) 1 _ rfl) Tryz.underlying49 rfl (by kernel_rfl)) rfl ?_
  exact ⟨by rw [HV.out]; rfl,(HB1.out.setCell (by show w.heap.size ≤ w.heap.size; omega) _).setCell (by show w.heap.size ≤ w.heap.size; omega) _⟩
 have e4:=eq_lit s _ h4
 by_cases h5 : s.toList = [62,61]
 ·have HV : Hid (r = heldG [62,61] a b):=Lib.hid (by rw [hr,h5])
  clear hr h0 h1 h2 h3 h4
  go_enter Tryz.func120,Tryz.ntmps120
  go_wp2_with fail
  rw [← HW0.out]
  refine (of9_is (decide (b ≤ a)) W0).mono ?_
  rintro e_ W1 ⟨rfl,hb_⟩
  have HB1:=Lib.hid (zAd HB0.out hb_)
  have X1:=Lib.hid (zAe X0.out hb_)
  have d0:=bc_ X1.out 0
  have d1:=bc_ X1.out 1
  have f0:=zAc X1.out 0
  have f1:=zAc X1.out 1
  clear hb_
  go_wp2_with fail
  refine bodyPost_ret (zAq rfl _ _ (w.heap.size) 49 _ (0,0) _ rfl (blk_put (blk_put X1.out 0 _ rfl) 1 _ rfl) Tryz.underlying49 rfl (by kernel_rfl)) rfl ?_
  exact ⟨by rw [HV.out]; rfl,(HB1.out.setCell (by show w.heap.size ≤ w.heap.size; omega) _).setCell (by show w.heap.size ≤ w.heap.size; omega) _⟩
 have e5:=eq_lit s _ h5
 have HV : Hid (r = (0,0,false)):=Lib.hid (by rw [hr]; unfold heldG; rw [if_neg h0,if_neg h1,if_neg h2,if_neg h3,if_neg h4,if_neg h5])
 clear hr
 go_enter Tryz.func120,Tryz.ntmps120
 go_wp2_with fail
 refine bodyPost_ret (zAq rfl _ _ (w.heap.size) 49 #[.int .i64 0,.int .i64 0] (0,0) _ rfl (blk_new w _) Tryz.underlying49 rfl (by kernel_rfl)) rfl ?_
 exact ⟨by rw [HV.out]; rfl,zAa (Below.refl _ _) _⟩
theorem held_num (s : List UInt8) (a b : Int) (h0 : s ≠ [43]) (h1 : s ≠ [45]) (h2 : s ≠ [42]) (h3 : s ≠ [47]) (h4 : s ≠ [37]) : numG s a b = ((heldG s a b).1,(heldG s a b).2.1,0,(heldG s a b).2.2):=by
 unfold numG heldG sameG
 rw [if_neg h0,if_neg h1,if_neg h2,if_neg h3,if_neg h4]
 by_cases c0 : s = [60]
 ·rw [c0]; rfl
 by_cases c1 : s = [60,61]
 ·rw [c1]; rfl
 by_cases c2 : s = [62]
 ·rw [c2]; rfl
 by_cases c3 : s = [62,61]
 ·rw [c3]; rfl
 rw [if_neg c0,if_neg c1,if_neg c2,if_neg c3]
 by_cases c4 : s = [61,61]
 ·rw [if_pos c4,if_pos c4]
 rw [if_neg c4,if_neg c4]
 by_cases c5 : s = [33,61]
 ·rw [if_pos c5,if_pos c5]; rfl
 rw [if_neg c5,if_neg c5,if_neg c0,if_neg c1,if_neg c2,if_neg c3]
theorem numbers_is (s : ByteArray) (a b : Int) (r : Int × Int × Int × Bool) (hr : r = numG s.toList a b) (w : World) : Calls Tryz.prog 91 #[.string s,.int .i64 a,.int .i64 b] w fun e w' => e = .returned (.tuple #[.agg #[.int .i64 r.1,.int .i64 r.2.1],.int .i64 r.2.2.1,.bool r.2.2.2]) ∧ Below w.heap.size w w':=by
 obtain ⟨W0,hW0⟩ : ∃ W0,W0 = (w).alloc (.cells #[.int .i64 0,.int .i64 0] 49):=⟨_,rfl⟩
 have HB0 : Hid (Below w.heap.size w W0):=Lib.hid (by rw [hW0]; exact zAa (Below.refl _ _) _)
 have X0 : Hid (W0.heap[w.heap.size]? = some (.cells #[.int .i64 0,.int .i64 0] 49 (0,0))):=Lib.hid (by rw [hW0]; exact blk_new w _)
 have HW0:=Lib.hid hW0
 clear hW0
 by_cases h0 : s.toList = [43]
 ·have HV : Hid (r = numG [43] a b):=Lib.hid (by rw [hr,h0])
  clear hr
  go_enter Tryz.func91,Tryz.ntmps91
  go_wp2_with fail
  refine bodyPost_ret (zAr rfl _ _ (w.heap.size) 49 #[.int .i64 1,.int .i64 (wrap64 (a + b))] (0,0) _ rfl (blk_new w _) Tryz.underlying49 rfl (by kernel_rfl)) rfl ?_
  exact ⟨by rw [HV.out]; rfl,zAa (Below.refl _ _) _⟩
 have e0:=eq_lit s _ h0
 by_cases h1 : s.toList = [45]
 ·have HV : Hid (r = numG [45] a b):=Lib.hid (by rw [hr,h1])
  clear hr h0
  go_enter Tryz.func91,Tryz.ntmps91
  go_wp2_with fail
  refine bodyPost_ret (zAr rfl _ _ (w.heap.size) 49 #[.int .i64 1,.int .i64 (wrap64 (a - b))] (0,0) _ rfl (blk_new w _) Tryz.underlying49 rfl (by kernel_rfl)) rfl ?_
  exact ⟨by rw [HV.out]; rfl,zAa (Below.refl _ _) _⟩
 have e1:=eq_lit s _ h1
 by_cases h2 : s.toList = [42]
 ·have HV : Hid (r = numG [42] a b):=Lib.hid (by rw [hr,h2])
  clear hr h0 h1
  go_enter Tryz.func91,Tryz.ntmps91
  go_wp2_with fail
  refine bodyPost_ret (zAr rfl _ _ (w.heap.size) 49 #[.int .i64 1,.int .i64 (wrap64 (a * b))] (0,0) _ rfl (blk_new w _) Tryz.underlying49 rfl (by kernel_rfl)) rfl ?_
  exact ⟨by rw [HV.out]; rfl,zAa (Below.refl _ _) _⟩
 have e2:=eq_lit s _ h2
 by_cases h3 : s.toList = [47]
 ·have HV : Hid (r = numG [47] a b):=Lib.hid (by rw [hr,h3])
  clear hr h0 h1 h2
  by_cases hb : b = 0
  ·subst hb
   go_enter Tryz.func91,Tryz.ntmps91
   go_wp2_with fail
   refine bodyPost_ret (zAr rfl _ _ (w.heap.size) 49 #[.int .i64 0,.int .i64 0] (0,0) _ rfl (blk_new w _) Tryz.underlying49 rfl (by kernel_rfl)) rfl ?_
   exact ⟨by rw [HV.out]; rfl,zAa (Below.refl _ _) _⟩
  ·have hbb : (b == 0) = false:=beq_eq_false_iff_ne.2 hb
   have HV2 : Hid (r = (1,wrap64 (a.tdiv b),0,true)):=Lib.hid (by rw [HV.out]; exact if_neg hb)
   go_enter Tryz.func91,Tryz.ntmps91
   go_wp2_with fail
   refine bodyPost_ret (zAr rfl _ _ (w.heap.size) 49 #[.int .i64 1,.int .i64 (wrap64 (a.tdiv b))] (0,0) _ rfl (blk_new w _) Tryz.underlying49 rfl (by kernel_rfl)) rfl ?_
   exact ⟨by rw [HV2.out]; rfl,zAa (Below.refl _ _) _⟩
 have e3:=eq_lit s _ h3
 by_cases h4 : s.toList = [37]
 ·have HV : Hid (r = numG [37] a b):=Lib.hid (by rw [hr,h4])
  clear hr h0 h1 h2 h3
  by_cases hb : b = 0
  ·subst hb
   go_enter Tryz.func91,Tryz.ntmps91
   go_wp2_with fail
   refine bodyPost_ret (zAr rfl _ _ (w.heap.size) 49 #[.int .i64 0,.int .i64 0] (0,0) _ rfl (blk_new w _) Tryz.underlying49 rfl (by kernel_rfl)) rfl ?_
   exact ⟨by rw [HV.out]; rfl,zAa (Below.refl _ _) _⟩
  ·have hbb : (b == 0) = false:=beq_eq_false_iff_ne.2 hb
   have HV2 : Hid (r = (1,a.tmod b,0,true)):=Lib.hid (by rw [HV.out]; exact if_neg hb)
   go_enter Tryz.func91,Tryz.ntmps91
   go_wp2_with fail
   refine bodyPost_ret (zAr rfl _ _ (w.heap.size) 49 #[.int .i64 1,.int .i64 (a.tmod b)] (0,0) _ rfl (blk_new w _) Tryz.underlying49 rfl (by kernel_rfl)) rfl ?_
   exact ⟨by rw [HV2.out]; rfl,zAa (Below.refl _ _) _⟩
 have e4:=eq_lit s _ h4
 have HS:=Lib.hid (held_is s a b _ rfl W0)
 have hr2:=hr.trans (held_num s.toList a b h0 h1 h2 h3 h4)
 obtain ⟨q,hq⟩ : ∃ q,q = heldG s.toList a b:=⟨_,rfl⟩
 rw [← hq] at HS hr2
 have HV:=Lib.hid hr2
 obtain ⟨q1,q2,q3⟩:=q
 dsimp only at HV HS
 clear hr hr2 hq
 go_enter Tryz.func91,Tryz.ntmps91
 go_wp2_with fail
 rw [← HW0.out]
 refine HS.out.mono ?_
 rintro e_ W1 ⟨rfl,hb_⟩
 have HB1:=Lib.hid (zAd HB0.out hb_)
 have X1:=Lib.hid (zAe X0.out hb_)
 have X2:=zAj X1.out (.cells #[.int .i64 q1,.int .i64 q2] 49)
 have d0:=bc_ X2 0
 have d1:=bc_ X2 1
 have f0:=zAc X2 0
 have f1:=zAc X2 1
 clear hb_
 go_wp2_with fail
 refine bodyPost_ret (zAr rfl _ _ (w.heap.size) 49 #[.int .i64 q1,.int .i64 q2] (0,0) _ rfl (blk_put (blk_put X2 0 _ rfl) 1 _ rfl) Tryz.underlying49 rfl (by kernel_rfl)) rfl ?_
 exact ⟨by rw [HV.out]; rfl,((zAa HB1.out _).setCell (by show w.heap.size ≤ w.heap.size; omega) _).setCell (by show w.heap.size ≤ w.heap.size; omega) _⟩
theorem ref9_Binary_is (s : ByteArray) (k n k' n' : Int) (r : Int × Int × Int × Bool) (hr : r = binG s.toList k n k' n') (w : World) : Calls Tryz.prog 51 #[.string s,.agg #[.int .i64 k,.int .i64 n],.agg #[.int .i64 k',.int .i64 n']] w fun e w' => e = .returned (.tuple #[.agg #[.int .i64 r.1,.int .i64 r.2.1],.int .i64 r.2.2.1,.bool r.2.2.2]) ∧ Below w.heap.size w w':=by
 obtain ⟨W0,hW0⟩ : ∃ W0,W0 = (((w).alloc (.cells #[.int .i64 k,.int .i64 n] 49)).alloc (.cells #[.int .i64 k',.int .i64 n'] 49)).alloc (.cells #[.int .i64 0,.int .i64 0] 49):=⟨_,rfl⟩
 have HB0 : Hid (Below w.heap.size w W0):=Lib.hid (by rw [hW0]; exact zAa (zAa (zAa (Below.refl _ _) _) _) _)
 have X0 : Hid (W0.heap[w.heap.size + 1 + 1]? = some (.cells #[.int .i64 0,.int .i64 0] 49 (0,0))):=Lib.hid (by rw [hW0]; exact nb2 w _ _ _)
 have HW0:=Lib.hid hW0
 clear hW0
 by_cases h1 : k = 1 ∧ k' = 1
 ·have HS:=Lib.hid (numbers_is s n n' r (by rw [hr]; unfold binG; rw [if_pos h1]) W0)
  obtain ⟨rfl,rfl⟩:=h1
  clear hr
  go_enter Tryz.func51,Tryz.ntmps51
  go_wp2_with fail
  rw [← HW0.out]
  refine (HS.out).mono ?_
  rintro e_ W1 ⟨rfl,hb_⟩
  have HB1:=Lib.hid (zAd HB0.out hb_)
  have X1:=Lib.hid (zAe X0.out hb_)
  have d0:=bc_ X1.out 0
  have d1:=bc_ X1.out 1
  have f0:=zAc X1.out 0
  have f1:=zAc X1.out 1
  clear hb_
  go_wp2_with fail
  refine bodyPost_ret (zAr rfl _ _ (w.heap.size + 1 + 1) 49 #[.int .i64 r.1,.int .i64 r.2.1] (0,0) _ rfl (blk_put (blk_put X1.out 0 _ rfl) 1 _ rfl) Tryz.underlying49 rfl (by kernel_rfl)) rfl ?_
  exact ⟨rfl,(HB1.out.setCell (by show w.heap.size ≤ w.heap.size + 1 + 1; omega) _).setCell (by show w.heap.size ≤ w.heap.size + 1 + 1; omega) _⟩
 by_cases h2 : k ≠ 2 ∨ k' ≠ 2
 ·have HV : Hid (r = (0,0,0,false)):=Lib.hid (by rw [hr]; unfold binG; rw [if_neg h1,if_pos h2])
  have hc : (¬ k = 1 ∧ ¬ k = 2) ∨ (k = 2 ∧ ¬ k' = 2) ∨ (k = 1 ∧ ¬ k' = 1):=by omega
  clear hr h1 h2
  rcases hc with ⟨a,b⟩ | ⟨rfl,b⟩ | ⟨rfl,b⟩
  ·have ab : (k == 1) = false:=beq_eq_false_iff_ne.2 a
   have bb : (k == 2) = false:=beq_eq_false_iff_ne.2 b
   go_enter Tryz.func51,Tryz.ntmps51
   go_wp2_with fail
   refine bodyPost_ret (zAr rfl _ _ (w.heap.size + 1 + 1) 49 #[.int .i64 0,.int .i64 0] (0,0) _ rfl (nb2 w _ _ _) Tryz.underlying49 rfl (by kernel_rfl)) rfl ?_
   exact ⟨by rw [HV.out]; rfl,zAa (zAa (zAa (Below.refl _ _) _) _) _⟩
  ·have bb : (k' == 2) = false:=beq_eq_false_iff_ne.2 b
   go_enter Tryz.func51,Tryz.ntmps51
   go_wp2_with fail
   refine bodyPost_ret (zAr rfl _ _ (w.heap.size + 1 + 1) 49 #[.int .i64 0,.int .i64 0] (0,0) _ rfl (nb2 w _ _ _) Tryz.underlying49 rfl (by kernel_rfl)) rfl ?_
   exact ⟨by rw [HV.out]; rfl,zAa (zAa (zAa (Below.refl _ _) _) _) _⟩
  ·have bb : (k' == 1) = false:=beq_eq_false_iff_ne.2 b
   go_enter Tryz.func51,Tryz.ntmps51
   go_wp2_with fail
   refine bodyPost_ret (zAr rfl _ _ (w.heap.size + 1 + 1) 49 #[.int .i64 0,.int .i64 0] (0,0) _ rfl (nb2 w _ _ _) Tryz.underlying49 rfl (by kernel_rfl)) rfl ?_
   exact ⟨by rw [HV.out]; rfl,zAa (zAa (zAa (Below.refl _ _) _) _) _⟩
 obtain ⟨rfl,rfl⟩ : k = 2 ∧ k' = 2:=by omega
 have hr2 : r = boolG s.toList (n != 0) (n' != 0):=by rw [hr]; unfold binG; rw [if_neg h1,if_neg h2]
 clear hr h1 h2
 by_cases h0 : s.toList = [38,38]
 ·have HV : Hid (r = boolG [38,38] (n != 0) (n' != 0)):=Lib.hid (by rw [hr2,h0])
  clear hr2
  cases hx : (n != 0) <;> cases hy : (n' != 0) <;> (
   rw [hx,hy] at HV
   go_enter Tryz.func51,Tryz.ntmps51
   go_wp2_with fail
   rw [← HW0.out]
   refine (of9_is _ _).mono ?_
   rintro e_ W1 ⟨rfl,hb_⟩
   have HB1:=Lib.hid (zAd HB0.out hb_)
   have X1:=Lib.hid (zAe X0.out hb_)
   have d0:=bc_ X1.out 0
   have d1:=bc_ X1.out 1
   have f0:=zAc X1.out 0
   have f1:=zAc X1.out 1
   clear hb_
   go_wp2_with fail
   refine bodyPost_ret (zAr rfl _ _ (w.heap.size + 1 + 1) 49 _ (0,0) _ rfl (blk_put (blk_put X1.out 0 _ rfl) 1 _ rfl) Tryz.underlying49 rfl (by kernel_rfl)) rfl ?_
   exact ⟨by rw [HV.out]; rfl,(HB1.out.setCell (by show w.heap.size ≤ w.heap.size + 1 + 1; omega) _).setCell (by show w.heap.size ≤ w.heap.size + 1 + 1; omega) _⟩)
 have e0:=eq_lit s _ h0
 by_cases h1 : s.toList = [124,124]
 ·have HV : Hid (r = boolG [124,124] (n != 0) (n' != 0)):=Lib.hid (by rw [hr2,h1])
  clear hr2 h0
  cases hx : (n != 0) <;> cases hy : (n' != 0) <;> (
   rw [hx,hy] at HV
   go_enter Tryz.func51,Tryz.ntmps51
   go_wp2_with fail
   rw [← HW0.out]
   refine (of9_is _ _).mono ?_
   rintro e_ W1 ⟨rfl,hb_⟩
   have HB1:=Lib.hid (zAd HB0.out hb_)
   have X1:=Lib.hid (zAe X0.out hb_)
   have d0:=bc_ X1.out 0
   have d1:=bc_ X1.out 1
   have f0:=zAc X1.out 0
   have f1:=zAc X1.out 1
   clear hb_
   go_wp2_with fail
   refine bodyPost_ret (zAr rfl _ _ (w.heap.size + 1 + 1) 49 _ (0,0) _ rfl (blk_put (blk_put X1.out 0 _ rfl) 1 _ rfl) Tryz.underlying49 rfl (by kernel_rfl)) rfl ?_
   exact ⟨by rw [HV.out]; rfl,(HB1.out.setCell (by show w.heap.size ≤ w.heap.size + 1 + 1; omega) _).setCell (by show w.heap.size ≤ w.heap.size + 1 + 1; omega) _⟩)
 have e1:=eq_lit s _ h1
 have hr3 : r = sameG s.toList ((n != 0) == (n' != 0)):=by rw [hr2]; unfold boolG; rw [if_neg h0,if_neg h1]
 clear hr2
 by_cases g0 : s.toList = [61,61]
 ·have HV : Hid (r = sameG [61,61] ((n != 0) == (n' != 0))):=Lib.hid (by rw [hr3,g0])
  clear hr3 h0 h1
  cases hx : (n != 0) <;> cases hy : (n' != 0) <;> (
   rw [hx,hy] at HV
   go_enter Tryz.func51,Tryz.ntmps51
   go_wp2_with fail
   rw [← HW0.out]
   refine (of9_is _ _).mono ?_
   rintro e_ W1 ⟨rfl,hb_⟩
   have HB1:=Lib.hid (zAd HB0.out hb_)
   have X1:=Lib.hid (zAe X0.out hb_)
   have d0:=bc_ X1.out 0
   have d1:=bc_ X1.out 1
   have f0:=zAc X1.out 0
   have f1:=zAc X1.out 1
   clear hb_
   go_wp2_with fail
   refine bodyPost_ret (zAr rfl _ _ (w.heap.size + 1 + 1) 49 _ (0,0) _ rfl (blk_put (blk_put X1.out 0 _ rfl) 1 _ rfl) Tryz.underlying49 rfl (by kernel_rfl)) rfl ?_
   exact ⟨by rw [HV.out]; rfl,(HB1.out.setCell (by show w.heap.size ≤ w.heap.size + 1 + 1; omega) _).setCell (by show w.heap.size ≤ w.heap.size + 1 + 1; omega) _⟩)
 have k0:=eq_lit s _ g0
 by_cases g1 : s.toList = [33,61]
 ·have HV : Hid (r = sameG [33,61] ((n != 0) == (n' != 0))):=Lib.hid (by rw [hr3,g1])
  clear hr3 h0 h1 g0
  cases hx : (n != 0) <;> cases hy : (n' != 0) <;> (
   rw [hx,hy] at HV
   go_enter Tryz.func51,Tryz.ntmps51
   go_wp2_with fail
   rw [← HW0.out]
   refine (of9_is _ _).mono ?_
   rintro e_ W1 ⟨rfl,hb_⟩
   have HB1:=Lib.hid (zAd HB0.out hb_)
   have X1:=Lib.hid (zAe X0.out hb_)
   have d0:=bc_ X1.out 0
   have d1:=bc_ X1.out 1
   have f0:=zAc X1.out 0
   have f1:=zAc X1.out 1
   clear hb_
   go_wp2_with fail
   refine bodyPost_ret (zAr rfl _ _ (w.heap.size + 1 + 1) 49 _ (0,0) _ rfl (blk_put (blk_put X1.out 0 _ rfl) 1 _ rfl) Tryz.underlying49 rfl (by kernel_rfl)) rfl ?_
   exact ⟨by rw [HV.out]; rfl,(HB1.out.setCell (by show w.heap.size ≤ w.heap.size + 1 + 1; omega) _).setCell (by show w.heap.size ≤ w.heap.size + 1 + 1; omega) _⟩)
 have k1:=eq_lit s _ g1
 have HV : Hid (r = (0,0,0,false)):=Lib.hid (by rw [hr3]; unfold sameG; rw [if_neg g0,if_neg g1])
 clear hr3
 go_enter Tryz.func51,Tryz.ntmps51
 go_wp2_with fail
 refine bodyPost_ret (zAr rfl _ _ (w.heap.size + 1 + 1) 49 #[.int .i64 0,.int .i64 0] (0,0) _ rfl (nb2 w _ _ _) Tryz.underlying49 rfl (by kernel_rfl)) rfl ?_
 exact ⟨by rw [HV.out]; rfl,zAa (zAa (zAa (Below.refl _ _) _) _) _⟩
theorem un9_is (s : ByteArray) (k n u1 u2 : Int) (u3 : Bool) (h : (u1,u2,u3) = unG s.toList k n) (w : World) : Calls Tryz.prog 49 #[.string s,.agg #[.int .i64 k,.int .i64 n]] w fun e w' => e = .returned (.tuple #[.agg #[.int .i64 u1,.int .i64 u2],.bool u3]) ∧ Below w.heap.size w w':=ref9_Unary_is s k n _ h w
theorem bin9_is (s : ByteArray) (k n k' n' u1 u2 u3 : Int) (u4 : Bool) (h : (u1,u2,u3,u4) = binG s.toList k n k' n') (w : World) : Calls Tryz.prog 51 #[.string s,.agg #[.int .i64 k,.int .i64 n],.agg #[.int .i64 k',.int .i64 n']] w fun e w' => e = .returned (.tuple #[.agg #[.int .i64 u1,.int .i64 u2],.int .i64 u3,.bool u4]) ∧ Below w.heap.size w w':=ref9_Binary_is s k n k' n' _ h w
theorem name_is (At : Option Addr) (n ct : Nat) (root : Int) (An : Option Addr) (cn : Nat) (l : List NV) (hl : l.length ≤ 1000000) (hc : l.length ≤ cn) (Bh : Nat) (s : ByteArray) (w : World) (hC : Kd.C kNV w An l.length l) :
  Calls Tryz.prog 37 #[.agg #[.slice At n ct,.int .i64 root,.slice An l.length cn,.pointer (some ⟨Bh,0,none⟩)],.string s] w fun e w' => e = .returned (.agg #[.int .i64 (nameF l s.data.toList).1,.int .i64 (nameF l s.data.toList).2]) ∧ Below w.heap.size w w':=by
 have hmf:=@hmf_ Tryz.prog
 have hb0 : Below w.heap.size w (((w.alloc (.cells #[.slice At n ct,.int .i64 root,.slice An l.length cn,.pointer (some ⟨Bh,0,none⟩)] 76)).alloc (.cells #[.string s] 9)).alloc (.cells #[.int .i64 0,.int .i64 0] 43)):=zAa (zAa (zAa (Below.refl _ _) _) _) _
 have x0:=zAj (zAj (blk_new w (.cells #[.slice At n ct,.int .i64 root,.slice An l.length cn,.pointer (some ⟨Bh,0,none⟩)] 76)) (.cells #[.string s] 9)) (.cells #[.int .i64 0,.int .i64 0] 43)
 have x1:=zAj (blk_new (w.alloc (.cells #[.slice At n ct,.int .i64 root,.slice An l.length cn,.pointer (some ⟨Bh,0,none⟩)] 76)) (.cells #[.string s] 9)) (.cells #[.int .i64 0,.int .i64 0] 43)
 have x2:=blk_new ((w.alloc (.cells #[.slice At n ct,.int .i64 root,.slice An l.length cn,.pointer (some ⟨Bh,0,none⟩)] 76)).alloc (.cells #[.string s] 9)) (.cells #[.int .i64 0,.int .i64 0] 43)
 have e1 : (w.alloc (.cells #[.slice At n ct,.int .i64 root,.slice An l.length cn,.pointer (some ⟨Bh,0,none⟩)] 76)).heap.size = w.heap.size + 1:=by simp
 have e2 : ((w.alloc (.cells #[.slice At n ct,.int .i64 root,.slice An l.length cn,.pointer (some ⟨Bh,0,none⟩)] 76)).alloc (.cells #[.string s] 9)).heap.size = w.heap.size + 1 + 1:=by simp
 rw [e1] at x1
 rw [e2] at x2
 obtain ⟨W0,hW0⟩ : ∃ W0,W0 = ((w.alloc (.cells #[.slice At n ct,.int .i64 root,.slice An l.length cn,.pointer (some ⟨Bh,0,none⟩)] 76)).alloc (.cells #[.string s] 9)).alloc (.cells #[.int .i64 0,.int .i64 0] 43):=⟨_,rfl⟩
 rw [← hW0] at hb0 x0 x1 x2
 have HB0:=Lib.hid hb0
 have X0:=Lib.hid x0
 have X2:=Lib.hid x2
 have HW0:=Lib.hid hW0
 have HC:=Lib.hid hC
 have HF:=Lib.hid (nameFind_is (w.heap.size + 1) An cn l hl hc s W0 (Kd.C_below hC hb0) ((zAh x1 0).trans rfl))
 have q0:=bc_ x0 2
 have HQ:=Lib.hid hW0
 rw [hW0] at q0
 obtain ⟨r,hr⟩ : ∃ r,r = nameF l s.data.toList:=⟨_,rfl⟩
 rw [← hr] at HF ⊢
 clear hb0 x0 x1 x2 hW0 e1 e2 hC hr
 go_enter Tryz.func37,Tryz.ntmps37
 go_wp2_with fail
 rw [← HW0.out]
 clear q0
 refine HF.out.mono ?_
 rintro e_ W1 ⟨v,rfl,HV,hb_⟩
 have HB1:=Lib.hid (zAd HB0.out hb_)
 have X21:=Lib.hid (zAe X2.out hb_)
 have q1:=bc_ (zAe X0.out hb_) 2
 have d0:=bc_ X21.out 0
 have d1:=bc_ X21.out 1
 have f0:=zAc X21.out 0
 have f1:=zAc X21.out 1
 clear hb_
 rcases HV.out with ⟨rfl,hr⟩ | ⟨i,rfl,hi,hr⟩
 ·subst hr
  clear HV HF
  go_wp2_with fail
  refine bodyPost_ret (results_cell_row rfl _ _ (w.heap.size + 1 + 1) 43 #[.int .i64 0,.int .i64 0] (0,0) _ rfl (blk_put (blk_put X21.out 0 _ rfl) 1 _ rfl) Tryz.underlying43 rfl (by kernel_rfl)) rfl ?_
  exact ⟨rfl,(HB1.out.setCell (by show w.heap.size ≤ w.heap.size + 1 + 1; omega) _).setCell (by show w.heap.size ≤ w.heap.size + 1 + 1; omega) _⟩
 ·obtain ⟨ad,eA,z0,z1,z2⟩:=nv_at (Kd.C_below HC.out HB1.out) i hi
  rw [hr] at z1 z2
  obtain ⟨k,m⟩:=r
  cases eA
  have hin : (i : Int) < l.length:=by omega
  clear HV HF hr z0
  go_wp2_with fail
  refine bodyPost_ret (results_cell_row rfl _ _ (w.heap.size + 1 + 1) 43 #[.int .i64 k,.int .i64 m] (0,0) _ rfl (blk_put (blk_put X21.out 0 _ rfl) 1 _ rfl) Tryz.underlying43 rfl (by kernel_rfl)) rfl ?_
  exact ⟨rfl,(HB1.out.setCell (by show w.heap.size ≤ w.heap.size + 1 + 1; omega) _).setCell (by show w.heap.size ≤ w.heap.size + 1 + 1; omega) _⟩
end Go.Proofs.YtkhlfdcjgooogaaGreat.P
