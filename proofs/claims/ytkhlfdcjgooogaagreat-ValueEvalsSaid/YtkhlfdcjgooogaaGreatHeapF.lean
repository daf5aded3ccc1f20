import Derived.Test.YtkhlfdcjgooogaaGreatWMore
import Derived.Test.YtkhlfdcjgooogaaGreatHeapD
set_option maxRecDepth 100000
set_option maxHeartbeats 16000000
set_option linter.unusedVariables false
set_option linter.unusedSimpArgs false
set_option linter.unusedSectionVars false
namespace Go.Proofs.YtkhlfdcjgooogaaGreat.P
open Go.RowKit Go.Proofs.YtkhlfdcjgooogaaGreatW.PrintWords Go.Proofs.YtkhlfdcjgooogaaGreatW.PrintLast Go.Proofs.YtkhlfdcjgooogaaGreatW.PrintMore
theorem is_any {B : Nat} {A : Option Addr} {l c : Nat} (a n : Int) {w : World} (hB : w.heap[B]? = some (.cells #[.slice A l c] 40 (0,0))) (hl : l ≤ 1000000) :
  Calls Tryz.prog 54 #[.pointer (some ⟨B,0,none⟩),.agg #[.int .i64 a,.int .i64 n]] w fun e w' => e = .returned (.bool (decide (a = 3 ∧ 1 ≤ n ∧ n ≤ (l : Int)))) ∧ Below w.heap.size w w':=by
 have b0:=zAh hB 0
 have hlt:=blk_lt hB
 clear hB
 by_cases h3 : a = 3
 ·subst h3
  by_cases h1 : 1 ≤ n
  ·by_cases h2 : n ≤ (l : Int)
   ·have e : decide ((3 : Int) = 3 ∧ 1 ≤ n ∧ n ≤ (l : Int)) = true:=decide_eq_true ⟨rfl,h1,h2⟩
    rw [e]
    have d2 : decide (1 ≤ n) = true:=by simp [h1]
    have d3 : decide (n ≤ (l : Int)) = true:=by simp [h2]
    clear e h1 h2
    go_enter Tryz.func54,Tryz.ntmps54
    go_wp2_with fail
    go_quiet (fail)
    go_wp2_with fail
    go_ret
    exact ⟨rfl,zAW ((Below.refl _ _).alloc (Nat.le_refl _) _)⟩
   ·have e : decide ((3 : Int) = 3 ∧ 1 ≤ n ∧ n ≤ (l : Int)) = false:=decide_eq_false (fun h => h2 h.2.2)
    rw [e]
    have d2 : decide (1 ≤ n) = true:=by simp [h1]
    have d3 : decide (n ≤ (l : Int)) = false:=by simp; omega
    clear e h1 h2
    go_enter Tryz.func54,Tryz.ntmps54
    go_wp2_with fail
    go_quiet (fail)
    go_wp2_with fail
    go_ret
    exact ⟨rfl,zAW ((Below.refl _ _).alloc (Nat.le_refl _) _)⟩
  ·have e : decide ((3 : Int) = 3 ∧ 1 ≤ n ∧ n ≤ (l : Int)) = false:=decide_eq_false (fun h => h1 h.2.1)
   rw [e]
   have d2 : decide (1 ≤ n) = false:=by simp; omega
   clear e h1
   go_enter Tryz.func54,Tryz.ntmps54
   go_wp2_with fail
   go_quiet (fail)
   go_wp2_with fail
   go_ret
   exact ⟨rfl,zAW ((Below.refl _ _).alloc (Nat.le_refl _) _)⟩
 ·have e : decide (a = 3 ∧ 1 ≤ n ∧ n ≤ (l : Int)) = false:=decide_eq_false (fun h => h3 h.1)
  rw [e]
  have d2 : (a == 3) = false:=by simp [h3]
  clear e h3
  go_enter Tryz.func54,Tryz.ntmps54
  go_wp2_with fail
  go_quiet (fail)
  go_wp2_with fail
  go_ret
  exact ⟨rfl,zAW ((Below.refl _ _).alloc (Nat.le_refl _) _)⟩
theorem is_not {B : Nat} {ok : Nat → Prop} {L : List (List Int)} {v : Value} {gs : List (Nat × Nat)} (a n : Int) {w : World} (hB : w.heap[B]? = some (.cells #[v] 40 (0,0))) (hA : Arrs w ok v gs L) (hl : L.length ≤ 1000000) (h : isB L a n = false) :
  Calls Tryz.prog 54 #[.pointer (some ⟨B,0,none⟩),.agg #[.int .i64 a,.int .i64 n]] w fun e w' => e = .returned (.bool false) ∧ Below w.heap.size w w':=by
 obtain ⟨A,c,rfl,_⟩:=hA.get
 have h1:=is_any a n hB hl
 have e : decide (a = 3 ∧ 1 ≤ n ∧ n ≤ (L.length : Int)) = false:=h
 rwa [e] at h1
theorem is_yes {B : Nat} {A : Option Addr} {l c : Nat} (n : Int) {w : World} (hB : w.heap[B]? = some (.cells #[.slice A l c] 40 (0,0))) (hl : l ≤ 1000000) (h1 : 1 ≤ n) (h2 : n ≤ (l : Int)) :
  Calls Tryz.prog 54 #[.pointer (some ⟨B,0,none⟩),.agg #[.int .i64 3,.int .i64 n]] w fun e w' => e = .returned (.bool true) ∧ Below w.heap.size w w':=by
 have h:=is_any 3 n hB hl
 rwa [decide_eq_true ⟨rfl,h1,h2⟩] at h
theorem rlen_no {B : Nat} {ok : Nat → Prop} {L : List (List Int)} {v : Value} {gs : List (Nat × Nat)} (a n : Int) {w : World} (hB : w.heap[B]? = some (.cells #[v] 40 (0,0))) (hA : Arrs w ok v gs L) (hl : L.length ≤ 1000000) (h : isB L a n = false) :
  Calls Tryz.prog 47 #[.pointer (some ⟨B,0,none⟩),.agg #[.int .i64 a,.int .i64 n]] w fun e w' => e = .returned (.int .i64 0) ∧ Below w.heap.size w w':=by
 have hb0 : Below w.heap.size w (w.alloc (.cells #[.int .i64 a,.int .i64 n] 49)):=zAa (Below.refl _ _) _
 have H:=Lib.hid (is_not a n (zAj hB (.cells #[.int .i64 a,.int .i64 n] 49)) (hA.step (fun k hk _ => hb0.block k hk)) hl h)
 clear hB hA h
 go_enter Tryz.func47,Tryz.ntmps47
 go_wp2_with (go_at_call 54; refine H.out.mono ?_; rintro e w1 ⟨rfl,hb⟩)
 go_ret
 exact ⟨rfl,zAd hb0 hb⟩
theorem rlen_yes {B g l c d m q : Nat} (n : Int) {w : World} (hB : w.heap[B]? = some (.cells #[.slice (some ⟨g,0,none⟩) l c] 40 (0,0))) (hl : l ≤ 1000000) (h1 : 1 ≤ n) (h2 : n ≤ (l : Int)) (hg : g < w.heap.size) (hc : w.cell? ⟨g,n.toNat - 1,none⟩ = some (.slice (some ⟨d,0,none⟩) m q)) :
  Calls Tryz.prog 47 #[.pointer (some ⟨B,0,none⟩),.agg #[.int .i64 3,.int .i64 n]] w fun e w' => e = .returned (.int .i64 m) ∧ Below w.heap.size w w':=by
 have hb0 : Below w.heap.size w (w.alloc (.cells #[.int .i64 3,.int .i64 n] 49)):=zAa (Below.refl _ _) _
 have hB1:=zAj hB (.cells #[.int .i64 3,.int .i64 n] 49)
 have H:=Lib.hid (is_yes n hB1 hl h1 h2)
 have cB:=(zAh hB1 0).trans rfl
 have hc1:=zAb hb0 hc
 have hlt:=blk_lt hB
 have hw : IntKind.i64.wrap (n - 1) = n - 1:=IntWalk.i64_in _ (by omega)
 have hn0 : 0 ≤ n - 1:=by omega
 have hn1 : n - 1 < (l : Int):=by omega
 have HB1:=Lib.hid hB1
 have HC1:=Lib.hid hc1
 clear hB hc hc1 hB1 cB
 go_enter Tryz.func47,Tryz.ntmps47
 go_wp2_with (go_at_call 54; refine H.out.mono ?_; rintro e w1 ⟨rfl,hb⟩; have cB:=(zAh (zAe HB1.out hb) 0).trans rfl; have cg:=zAb hb HC1.out; have r0:=zAb hb (zCV (X:=w) (cs:=#[.int .i64 3,.int .i64 n]) (t:=49) (j:=0) rfl rfl); have r1:=zAb hb (zCV (X:=w) (cs:=#[.int .i64 3,.int .i64 n]) (t:=49) (j:=1) rfl rfl))
 go_quiet (fail)
 go_wp2_with fail
 go_ret
 exact ⟨rfl,zAW (zAd hb0 hb)⟩
theorem wrong_missing {B : Nat} {ok : Nat → Prop} {L : List (List Int)} {v : Value} {gs : List (Nat × Nat)} (a n k i : Int) {w : World} (hB : w.heap[B]? = some (.cells #[v] 40 (0,0))) (hA : Arrs w ok v gs L) (hl : L.length ≤ 1000000) (h : isB L a n = false) :
  Calls Tryz.prog 31 #[.pointer (some ⟨B,0,none⟩),.agg #[.int .i64 a,.int .i64 n],.agg #[.int .i64 k,.int .i64 i]] w fun e w' => e = .returned (.int .i64 3) ∧ Below w.heap.size w w':=by
 have hb0 : Below w.heap.size w ((w.alloc (.cells #[.int .i64 a,.int .i64 n] 49)).alloc (.cells #[.int .i64 k,.int .i64 i] 49)):=zAa (zAa (Below.refl _ _) _) _
 have H:=Lib.hid (is_not a n (zAj (zAj hB (.cells #[.int .i64 a,.int .i64 n] 49)) (.cells #[.int .i64 k,.int .i64 i] 49)) (hA.step (fun k hk _ => hb0.block k hk)) hl h)
 clear hB hA h
 go_enter Tryz.func31,Tryz.ntmps31
 go_wp2_with (go_at_call 54; refine H.out.mono ?_; rintro e w1 ⟨rfl,hb⟩)
 go_ret
 exact ⟨rfl,zAd hb0 hb⟩
theorem cells2 {w : World} {a n k i : Int} {t : Nat} {w1 : World} (hb : Below ((w.alloc (.cells #[.int .i64 a,.int .i64 n] t)).alloc (.cells #[.int .i64 k,.int .i64 i] t)).heap.size ((w.alloc (.cells #[.int .i64 a,.int .i64 n] t)).alloc (.cells #[.int .i64 k,.int .i64 i] t)) w1) :
  w1.cell? ⟨w.heap.size,0,none⟩ = some (.int .i64 a) ∧ w1.cell? ⟨w.heap.size,1,none⟩ = some (.int .i64 n) ∧ w1.cell? ⟨w.heap.size + 1,0,none⟩ = some (.int .i64 k) ∧ w1.cell? ⟨w.heap.size + 1,1,none⟩ = some (.int .i64 i):=by
 have h1 : ((w.alloc (.cells #[.int .i64 a,.int .i64 n] t)).alloc (.cells #[.int .i64 k,.int .i64 i] t)).heap[w.heap.size]? = some (.cells #[.int .i64 a,.int .i64 n] t (0,0)):=zAj (heap_alloc_new w _) _
 have h2 : ((w.alloc (.cells #[.int .i64 a,.int .i64 n] t)).alloc (.cells #[.int .i64 k,.int .i64 i] t)).heap[w.heap.size + 1]? = some (.cells #[.int .i64 k,.int .i64 i] t (0,0)):=by
  have h:=heap_alloc_new (w.alloc (.cells #[.int .i64 a,.int .i64 n] t)) (.cells #[.int .i64 k,.int .i64 i] t)
  have e : (w.alloc (.cells #[.int .i64 a,.int .i64 n] t)).heap.size = w.heap.size + 1:=by simp
  rwa [e] at h
 exact ⟨(zAh (zAe h1 hb) 0).trans rfl,(zAh (zAe h1 hb) 1).trans rfl,(zAh (zAe h2 hb) 0).trans rfl,(zAh (zAe h2 hb) 1).trans rfl⟩
theorem wrong_range1 {B : Nat} {A : Option Addr} {l c : Nat} (n k i : Int) {w : World} (hB : w.heap[B]? = some (.cells #[.slice A l c] 40 (0,0))) (hl : l ≤ 1000000) (h1 : 1 ≤ n) (h2 : n ≤ (l : Int)) (hr : k ≠ 1 ∨ i < 0) :
  Calls Tryz.prog 31 #[.pointer (some ⟨B,0,none⟩),.agg #[.int .i64 3,.int .i64 n],.agg #[.int .i64 k,.int .i64 i]] w fun e w' => e = .returned (.int .i64 2) ∧ Below w.heap.size w w':=by
 have hb0 : Below w.heap.size w ((w.alloc (.cells #[.int .i64 3,.int .i64 n] 49)).alloc (.cells #[.int .i64 k,.int .i64 i] 49)):=zAa (zAa (Below.refl _ _) _) _
 have H:=Lib.hid (is_yes n (zAj (zAj hB (.cells #[.int .i64 3,.int .i64 n] 49)) (.cells #[.int .i64 k,.int .i64 i] 49)) hl h1 h2)
 clear hB h1 h2
 by_cases h1 : k = 1
 ·subst h1
  have d1 : decide (i < 0) = true:=by simp; omega
  clear hr
  go_enter Tryz.func31,Tryz.ntmps31
  go_wp2_with (go_at_call 54; refine H.out.mono ?_; rintro e w1 ⟨rfl,hb⟩; obtain ⟨r0,r1,r2,r3⟩:=cells2 hb)
  go_quiet (fail)
  go_wp2_with fail
  go_ret
  exact ⟨rfl,zAW (zAd hb0 hb)⟩
 ·have d1 : (k != 1) = true:=by simp [h1]
  clear hr h1
  go_enter Tryz.func31,Tryz.ntmps31
  go_wp2_with (go_at_call 54; refine H.out.mono ?_; rintro e w1 ⟨rfl,hb⟩; obtain ⟨r0,r1,r2,r3⟩:=cells2 hb)
  go_quiet (fail)
  go_wp2_with fail
  go_ret
  exact ⟨rfl,zAW (zAd hb0 hb)⟩
theorem wrong_range2 {B g l c d m q : Nat} (n i : Int) {w : World} (hB : w.heap[B]? = some (.cells #[.slice (some ⟨g,0,none⟩) l c] 40 (0,0))) (hl : l ≤ 1000000) (h1 : 1 ≤ n) (h2 : n ≤ (l : Int)) (hg : g < w.heap.size) (hc : w.cell? ⟨g,n.toNat - 1,none⟩ = some (.slice (some ⟨d,0,none⟩) m q)) (h0 : 0 ≤ i) (z : Bool) (hz : decide ((m : Int) ≤ i) = z) :
  Calls Tryz.prog 31 #[.pointer (some ⟨B,0,none⟩),.agg #[.int .i64 3,.int .i64 n],.agg #[.int .i64 1,.int .i64 i]] w fun e w' => e = .returned (.int .i64 (if z then 2 else 0)) ∧ Below w.heap.size w w':=by
 have hb0 : Below w.heap.size w ((w.alloc (.cells #[.int .i64 3,.int .i64 n] 49)).alloc (.cells #[.int .i64 1,.int .i64 i] 49)):=zAa (zAa (Below.refl _ _) _) _
 have hB1:=Lib.hid (zAj (zAj hB (.cells #[.int .i64 3,.int .i64 n] 49)) (.cells #[.int .i64 1,.int .i64 i] 49))
 have H:=Lib.hid (is_yes n hB1.out hl h1 h2)
 have HC:=Lib.hid (zAb hb0 hc)
 have hg1 : g < ((w.alloc (.cells #[.int .i64 3,.int .i64 n] 49)).alloc (.cells #[.int .i64 1,.int .i64 i] 49)).heap.size:=by simp; omega
 have d1 : decide (i < 0) = false:=by simp; omega
 have h1':=Lib.hid h1
 have h2':=Lib.hid h2
 clear hB hc h1 h2
 cases z
 all_goals
  go_enter Tryz.func31,Tryz.ntmps31
  go_wp2_with (go_at_call 54; refine H.out.mono ?_; rintro e w1 ⟨rfl,hb⟩; obtain ⟨r0,r1,r2,r3⟩:=cells2 hb; have HB:=Lib.hid hb)
  have HL:=Lib.hid (rlen_yes (w:=w1.drew) n (zAe (zAe hB1.out HB.out) (zAk (Below.refl _ _))) hl h1'.out h2'.out (Nat.lt_of_lt_of_le hg1 HB.out.size) (zAC (zAb HB.out HC.out)))
  clear hb
  refine start_ (n:=16) (S:=fun w' => w'.cell? ⟨w.heap.size,0,none⟩ = some (.int .i64 3) ∧ w'.cell? ⟨w.heap.size,1,none⟩ = some (.int .i64 n) ∧ w'.cell? ⟨w.heap.size + 1,0,none⟩ = some (.int .i64 1) ∧ w'.cell? ⟨w.heap.size + 1,1,none⟩ = some (.int .i64 i)) (ds:=[]) #[false,false,false,false,false,false,false,false,false,false,false,false,false,false,false,false] (by kernel_rfl) rfl rfl ⟨r0,r1,r2,r3⟩ (fun hHeld => ?_)
  refine pu_ 0 11 ?_
  refine ta_ 1 12 hHeld ?_
  refine pu_ 2 13 ?_
  refine pu_ 3 14 ?_
  refine pu_ 4 15 ?_
  refine ta_ 5 16 hHeld ?_
  refine pu_ 6 17 ?_
  refine pu_ 7 18 ?_
  refine pu_ 8 19 ?_
  refine pu_ 9 20 ?_
  refine pu_ 11 22 ?_
  refine ta_ 10 21 hHeld ?_
  refine ta_ 12 23 hHeld ?_
  refine on_ 13 (some 24) (fun K hK => ?_)
  refine gs_ Tryz.func47 #[.pointer (some ⟨B,0,none⟩),.agg #[.int .i64 3,.int .i64 n]] ?_
  with_reducible refine (HL.out).mono ?_
  rintro e w3 ⟨rfl,hb3⟩
  refine ⟨_,rfl,?_⟩
  have HB3:=Lib.hid hb3
  clear hb3
  refine hK.out _ _ ⟨zAb HB3.out hHeld.1,zAb HB3.out hHeld.2.1,zAb HB3.out hHeld.2.2.1,zAb HB3.out hHeld.2.2.2⟩ (fun hHeld => ?_)
  clear hK K
  refine no_ ?_
  refine pu_ 14 25 ?_
  refine pu_ 15 26 ?_
  refine done_ (by kernel_rfl) ?_
  go_wp2_with fail
  go_ret
  exact ⟨rfl,zAd (zAk (zAd hb0 HB.out)) HB3.out⟩
theorem cells3 {w : World} {a n k i : Int} {t : Nat} {o3 : Obj} {w1 : World} (hb : Below (((w.alloc (.cells #[.int .i64 a,.int .i64 n] t)).alloc (.cells #[.int .i64 k,.int .i64 i] t)).alloc o3).heap.size (((w.alloc (.cells #[.int .i64 a,.int .i64 n] t)).alloc (.cells #[.int .i64 k,.int .i64 i] t)).alloc o3) w1) :
  w1.cell? ⟨w.heap.size,0,none⟩ = some (.int .i64 a) ∧ w1.cell? ⟨w.heap.size,1,none⟩ = some (.int .i64 n) ∧ w1.cell? ⟨w.heap.size + 1,0,none⟩ = some (.int .i64 k) ∧ w1.cell? ⟨w.heap.size + 1,1,none⟩ = some (.int .i64 i) :=
 cells2 ((zAa (Below.refl _ _) o3).trans (hb.mono (by simp)))
theorem rget_err {w : World} {B : Nat} (a n k i r : Int) (hr : r = 2 ∨ r = 3) (hwr : ∀ w1,Below w.heap.size w w1 → Calls Tryz.prog 31 #[.pointer (some ⟨B,0,none⟩),.agg #[.int .i64 a,.int .i64 n],.agg #[.int .i64 k,.int .i64 i]] w1 fun e w' => e = .returned (.int .i64 r) ∧ Below w1.heap.size w1 w') :
  Calls Tryz.prog 18 #[.pointer (some ⟨B,0,none⟩),.agg #[.int .i64 a,.int .i64 n],.agg #[.int .i64 k,.int .i64 i]] w fun e w' => e = .returned (.tuple #[.agg #[.int .i64 0,.int .i64 0],.int .i64 r]) ∧ Below w.heap.size w w':=by
 have hb0 : Below w.heap.size w (((w.alloc (.cells #[.int .i64 a,.int .i64 n] 49)).alloc (.cells #[.int .i64 k,.int .i64 i] 49)).alloc (.cells #[.int .i64 0,.int .i64 0] 49)):=zAa (zAa (zAa (Below.refl _ _) _) _) _
 have H:=Lib.hid (hwr _ hb0)
 have d : (r != 0) = true:=by rcases hr with rfl | rfl <;> rfl
 clear hwr hr
 go_enter Tryz.func18,Tryz.ntmps18
 go_wp2_with (go_at_call 31; refine H.out.mono ?_; rintro e w1 ⟨rfl,hb⟩; obtain ⟨hbc,hbf⟩:=bcell hb)
 have BK:=zBX hb
 refine bodyPost_ret (zAq rfl _ _ (w.heap.size + 1 + 1) 49 #[.int .i64 0,.int .i64 0] (0,0) _ rfl (blk_put (blk_put BK 0 _ rfl) 1 _ rfl) Tryz.underlying49 rfl (by kernel_rfl)) rfl ?_
 exact ⟨rfl,((zAd hb0 hb).setCell (le2 _) _).setCell (le2 _) _⟩
theorem rget_is {w : World} {B g l c d m q : Nat} (n i u : Int) (hB : w.heap[B]? = some (.cells #[.slice (some ⟨g,0,none⟩) l c] 40 (0,0))) (hl : l ≤ 1000000) (h1 : 1 ≤ n) (h2 : n ≤ (l : Int)) (hg : g < w.heap.size) (hc : w.cell? ⟨g,n.toNat - 1,none⟩ = some (.slice (some ⟨d,0,none⟩) m q)) (hm : m ≤ 1000000) (h0 : 0 ≤ i) (him : i < (m : Int)) (hu : w.cell? ⟨d,i.toNat,none⟩ = some (.int .i64 u))
  (hwr : ∀ w1,Below w.heap.size w w1 → Calls Tryz.prog 31 #[.pointer (some ⟨B,0,none⟩),.agg #[.int .i64 3,.int .i64 n],.agg #[.int .i64 1,.int .i64 i]] w1 fun e w' => e = .returned (.int .i64 0) ∧ Below w1.heap.size w1 w') :
  Calls Tryz.prog 18 #[.pointer (some ⟨B,0,none⟩),.agg #[.int .i64 3,.int .i64 n],.agg #[.int .i64 1,.int .i64 i]] w fun e w' => e = .returned (.tuple #[.agg #[.int .i64 1,.int .i64 u],.int .i64 0]) ∧ Below w.heap.size w w':=by
 have hb0 : Below w.heap.size w (((w.alloc (.cells #[.int .i64 3,.int .i64 n] 49)).alloc (.cells #[.int .i64 1,.int .i64 i] 49)).alloc (.cells #[.int .i64 0,.int .i64 0] 49)):=zAa (zAa (zAa (Below.refl _ _) _) _) _
 have H:=Lib.hid (hwr _ hb0)
 have HB1:=Lib.hid (zAe hB hb0)
 have HC1:=Lib.hid (zAb hb0 hc)
 have HU1:=Lib.hid (zAb hb0 hu)
 have hw : IntKind.i64.wrap (n - 1) = n - 1:=IntWalk.i64_in _ (by omega)
 have hn0 : 0 ≤ n - 1:=by omega
 have hn1 : n - 1 < (l : Int):=by omega
 have hlt:=blk_lt hB
 clear hwr hc hu hB
 go_enter Tryz.func18,Tryz.ntmps18
 go_wp2_with (go_at_call 31; refine H.out.mono ?_; rintro e w1 ⟨rfl,hb⟩; obtain ⟨r0,r1,r2,r3⟩:=cells3 hb; have cB:=(zAh (zAe HB1.out hb) 0).trans rfl; have cg:=zAb hb HC1.out; have cu:=zAb hb HU1.out; have BK:=Lib.hid (zBX hb); have HB:=Lib.hid hb; clear hb)
 have q0:=bc_ BK.out 0
 have q1:=bc_ BK.out 1
 have q2:=zAc BK.out 0
 have q3:=zAc BK.out 1
 refine start_ (n:=16) (S:=fun w' => w'.cell? ⟨B,0,none⟩ = some (.slice (some ⟨g,0,none⟩) l c) ∧ w'.cell? ⟨w.heap.size,1,none⟩ = some (.int .i64 n) ∧ w'.cell? ⟨w.heap.size + 1,1,none⟩ = some (.int .i64 i) ∧ w'.cell? ⟨g,n.toNat - 1,none⟩ = some (.slice (some ⟨d,0,none⟩) m q) ∧ w'.cell? ⟨d,i.toNat,none⟩ = some (.int .i64 u)) (ds:=[14]) #[false,false,false,false,false,false,false,false,false,false,false,false,false,false,false,false] (by kernel_rfl) rfl rfl ⟨cB,r1,r3,cg,cu⟩ (fun hHeld => ?_)
 refine pu_ 0 17 ?_
 refine pu_ 1 18 ?_
 refine pu_ 2 19 ?_
 refine pu_ 4 21 ?_
 refine pu_ 9 26 ?_
 refine ta_ 3 20 hHeld ?_
 refine ta_ 5 22 hHeld ?_
 refine pu_ 6 23 ?_
 refine pu_ 7 24 ?_
 refine ta_ 8 25 hHeld ?_
 refine ta_ 10 27 hHeld ?_
 refine pu_ 11 28 ?_
 refine ta_ 12 29 hHeld ?_
 refine pu_ 13 30 ?_
 refine last_ (i:=14) (N:=none) #[true,true,true,true,true,true,true,true,true,true,true,true,true,true,true,false] rfl rfl (by kernel_rfl) (by decide) (fun K hK => ?_)
 refine skip_ (w1:=?_) (by rfl) rfl ?_ ?_
 rotate_left
 ·go_simp
  rfl
 refine hK.out _ _ ?_
 clear hK K
 refine pu_ 15 7 ?_
 refine done_ (by kernel_rfl) ?_
 go_wp2_with fail
 refine bodyPost_ret (zAq rfl _ _ (w.heap.size + 1 + 1) 49 #[.int .i64 1,.int .i64 u] (0,0) _ rfl (blk_put (blk_put (cs:=#[.int .i64 0,.int .i64 0]) (by exact BK.out) 0 _ rfl) 1 _ rfl) Tryz.underlying49 rfl (by kernel_rfl)) rfl ?_
 exact ⟨rfl,((zAk (zAd hb0 HB.out)).setCell (le2 _) _).setCell (le2 _) _⟩
theorem rset_err {w : World} {B : Nat} (a n k i s x r : Int) (hr : r = 2 ∨ r = 3) (hwr : ∀ w1,Below w.heap.size w w1 → Calls Tryz.prog 31 #[.pointer (some ⟨B,0,none⟩),.agg #[.int .i64 a,.int .i64 n],.agg #[.int .i64 k,.int .i64 i]] w1 fun e w' => e = .returned (.int .i64 r) ∧ Below w1.heap.size w1 w') :
  Calls Tryz.prog 19 #[.pointer (some ⟨B,0,none⟩),.agg #[.int .i64 a,.int .i64 n],.agg #[.int .i64 k,.int .i64 i],.agg #[.int .i64 s,.int .i64 x]] w fun e w' => e = .returned (.int .i64 r) ∧ Below w.heap.size w w':=by
 have hb0 : Below w.heap.size w (((w.alloc (.cells #[.int .i64 a,.int .i64 n] 49)).alloc (.cells #[.int .i64 k,.int .i64 i] 49)).alloc (.cells #[.int .i64 s,.int .i64 x] 49)):=zAa (zAa (zAa (Below.refl _ _) _) _) _
 have H:=Lib.hid (hwr _ hb0)
 have d : (r == 0) = false:=by rcases hr with rfl | rfl <;> rfl
 clear hwr hr
 go_enter Tryz.func19,Tryz.ntmps19
 go_wp2_with (go_at_call 31; refine H.out.mono ?_; rintro e w1 ⟨rfl,hb⟩; obtain ⟨hbc,hbf⟩:=bcell hb)
 go_ret
 exact ⟨rfl,zAd hb0 hb⟩
theorem rset_nop {w : World} {B : Nat} (a n k i s x : Int) (hs : s ≠ 1) (hwr : ∀ w1,Below w.heap.size w w1 → Calls Tryz.prog 31 #[.pointer (some ⟨B,0,none⟩),.agg #[.int .i64 a,.int .i64 n],.agg #[.int .i64 k,.int .i64 i]] w1 fun e w' => e = .returned (.int .i64 0) ∧ Below w1.heap.size w1 w') :
  Calls Tryz.prog 19 #[.pointer (some ⟨B,0,none⟩),.agg #[.int .i64 a,.int .i64 n],.agg #[.int .i64 k,.int .i64 i],.agg #[.int .i64 s,.int .i64 x]] w fun e w' => e = .returned (.int .i64 0) ∧ Below w.heap.size w w':=by
 have hb0 : Below w.heap.size w (((w.alloc (.cells #[.int .i64 a,.int .i64 n] 49)).alloc (.cells #[.int .i64 k,.int .i64 i] 49)).alloc (.cells #[.int .i64 s,.int .i64 x] 49)):=zAa (zAa (zAa (Below.refl _ _) _) _) _
 have H:=Lib.hid (hwr _ hb0)
 have d : (s == 1) = false:=by simp [hs]
 clear hwr hs
 go_enter Tryz.func19,Tryz.ntmps19
 go_wp2_with (go_at_call 31; refine H.out.mono ?_; rintro e w1 ⟨rfl,hb⟩; obtain ⟨hbc,hbf⟩:=bcell hb)
 go_ret
 exact ⟨rfl,zAd hb0 hb⟩
theorem rset_is {w : World} {B g l c d m q : Nat} (n i x : Int) (u : Value) (hB : w.heap[B]? = some (.cells #[.slice (some ⟨g,0,none⟩) l c] 40 (0,0))) (hl : l ≤ 1000000) (h1 : 1 ≤ n) (h2 : n ≤ (l : Int)) (hg : g < w.heap.size) (hc : w.cell? ⟨g,n.toNat - 1,none⟩ = some (.slice (some ⟨d,0,none⟩) m q)) (hm : m ≤ 1000000) (h0 : 0 ≤ i) (him : i < (m : Int)) (hd : d < w.heap.size) (hu : w.cell? ⟨d,i.toNat,none⟩ = some u) (hf : w.frozen? ⟨d,i.toNat,none⟩ = false)
  (hwr : ∀ w1,Below w.heap.size w w1 → Calls Tryz.prog 31 #[.pointer (some ⟨B,0,none⟩),.agg #[.int .i64 3,.int .i64 n],.agg #[.int .i64 1,.int .i64 i]] w1 fun e w' => e = .returned (.int .i64 0) ∧ Below w1.heap.size w1 w') :
  Calls Tryz.prog 19 #[.pointer (some ⟨B,0,none⟩),.agg #[.int .i64 3,.int .i64 n],.agg #[.int .i64 1,.int .i64 i],.agg #[.int .i64 1,.int .i64 x]] w fun e w' => e = .returned (.int .i64 0) ∧ ∃ w1,Below w.heap.size w w1 ∧ w' = w1.setCell ⟨d,i.toNat,none⟩ (.int .i64 x):=by
 have hb0 : Below w.heap.size w (((w.alloc (.cells #[.int .i64 3,.int .i64 n] 49)).alloc (.cells #[.int .i64 1,.int .i64 i] 49)).alloc (.cells #[.int .i64 1,.int .i64 x] 49)):=zAa (zAa (zAa (Below.refl _ _) _) _) _
 have H:=Lib.hid (hwr _ hb0)
 have HB1:=Lib.hid (zAe hB hb0)
 have HC1:=Lib.hid (zAb hb0 hc)
 have HU1:=Lib.hid (zAb hb0 hu)
 have HF1:=Lib.hid ((hb0.frozen (p:=⟨d,i.toNat,none⟩) hd).trans hf)
 have hd1 : d < (((w.alloc (.cells #[.int .i64 3,.int .i64 n] 49)).alloc (.cells #[.int .i64 1,.int .i64 i] 49)).alloc (.cells #[.int .i64 1,.int .i64 x] 49)).heap.size:=by simp; omega
 have hw : IntKind.i64.wrap (n - 1) = n - 1:=IntWalk.i64_in _ (by omega)
 have hn0 : 0 ≤ n - 1:=by omega
 have hn1 : n - 1 < (l : Int):=by omega
 have hlt:=blk_lt hB
 clear hwr hc hu hB hf
 go_enter Tryz.func19,Tryz.ntmps19
 go_wp2_with (go_at_call 31; refine H.out.mono ?_; rintro e w1 ⟨rfl,hb⟩; obtain ⟨r0,r1,r2,r3⟩:=cells3 hb; have cB:=(zAh (zAe HB1.out hb) 0).trans rfl; have cg:=zAb hb HC1.out; have cu:=zAb hb HU1.out; have cf:=(hb.frozen (p:=⟨d,i.toNat,none⟩) hd1).trans HF1.out; have BK:=Lib.hid (zBX hb); have q0:=(zAh BK.out 0).trans rfl;  have q1:=(zAh BK.out 1).trans rfl; have HB:=Lib.hid hb; clear hb)
 refine start_ (n:=15) (S:=fun w' => w'.cell? ⟨B,0,none⟩ = some (.slice (some ⟨g,0,none⟩) l c) ∧ w'.cell? ⟨w.heap.size,1,none⟩ = some (.int .i64 n) ∧ w'.cell? ⟨w.heap.size + 1,1,none⟩ = some (.int .i64 i) ∧ w'.cell? ⟨g,n.toNat - 1,none⟩ = some (.slice (some ⟨d,0,none⟩) m q) ∧ w'.cell? ⟨d,i.toNat,none⟩ = some u ∧ w'.cell? ⟨w.heap.size + 1 + 1,1,none⟩ = some (.int .i64 x)) (ds:=[14]) #[false,false,false,false,false,false,false,false,false,false,false,false,false,false,false] (by kernel_rfl) rfl rfl ⟨cB,r1,r3,cg,cu,q1⟩ (fun hHeld => ?_)
 refine pu_ 0 21 ?_
 refine pu_ 1 22 ?_
 refine pu_ 2 23 ?_
 refine pu_ 4 25 ?_
 refine pu_ 9 30 ?_
 refine pu_ 11 32 ?_
 refine ta_ 3 24 hHeld ?_
 refine ta_ 5 26 hHeld ?_
 refine pu_ 6 27 ?_
 refine pu_ 7 28 ?_
 refine ta_ 8 29 hHeld ?_
 refine ta_ 10 31 hHeld ?_
 refine ta_ 12 33 hHeld ?_
 refine pu_ 13 34 ?_
 refine last_ (i:=14) (N:=none) #[true,true,true,true,true,true,true,true,true,true,true,true,true,true,true] rfl rfl (by kernel_rfl) (by decide) (fun K hK => ?_)
 refine skip_ (w1:=?_) (by rfl) rfl ?_ ?_
 rotate_left
 ·go_simp
  rfl
 refine hK.out _ _ ?_
 clear hK K
 refine done_ (by kernel_rfl) ?_
 go_wp2_with fail
 go_ret
 exact ⟨rfl,_,zAk (zAd hb0 HB.out),rfl⟩
end Go.Proofs.YtkhlfdcjgooogaaGreat.P
