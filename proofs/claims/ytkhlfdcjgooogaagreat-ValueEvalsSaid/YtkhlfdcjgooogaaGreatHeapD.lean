import Derived.Test.YtkhlfdcjgooogaaGreatPf29
import Derived.Test.YtkhlfdcjgooogaaGreatWMore
import Derived.Laws.OwnMore
set_option maxRecDepth 100000
set_option maxHeartbeats 16000000
set_option linter.unusedVariables false
set_option linter.unusedSimpArgs false
set_option linter.unusedSectionVars false
namespace Go.Proofs.YtkhlfdcjgooogaaGreat.P
open Go.RowKit Go.Proofs.YtkhlfdcjgooogaaGreatW.PrintWords Go.Proofs.YtkhlfdcjgooogaaGreatW.PrintLast Go.Proofs.YtkhlfdcjgooogaaGreatW.PrintMore
def wrongF (L : List (List Int)) (a n k i : Int) : Int:=if isB L a n = false then 3 else if k ≠ 1 ∨ i < 0 ∨ ((arrAt L n).length : Int) ≤ i then 2 else 0
theorem cell_ok {w : World} {B g l c d m q : Nat} {x : Value} (n i : Int) (hB : w.heap[B]? = some (.cells #[.slice (some ⟨g,0,none⟩) l c,x] 37 (0,0))) (hl : l ≤ 1000000) (h1 : 1 ≤ n) (h2 : n ≤ (l : Int)) (hg : g < w.heap.size) (hc : w.cell? ⟨g,n.toNat - 1,none⟩ = some (.slice (some ⟨d,0,none⟩) m q)) (hm : m ≤ 1000000) (hi0 : 0 ≤ i) (him : i < (m : Int)) :
  Calls Tryz.prog 28 #[.pointer (some ⟨B,0,none⟩),.agg #[.int .i64 3,.int .i64 n],.agg #[.int .i64 1,.int .i64 i]] w fun e w' => e = .returned (.tuple #[.pointer (some ⟨d,i.toNat,none⟩),.int .i64 0]) ∧ Below w.heap.size w w':=by
 have hB1 : ((w.alloc (.cells #[.int .i64 3,.int .i64 n] 43)).alloc (.cells #[.int .i64 1,.int .i64 i] 43)).heap[B]? = some (.cells #[.slice (some ⟨g,0,none⟩) l c,x] 37 (0,0)):=zAj (zAj hB _) _
 have hb0 : Below w.heap.size w ((w.alloc (.cells #[.int .i64 3,.int .i64 n] 43)).alloc (.cells #[.int .i64 1,.int .i64 i] 43)):=zAa (zAa (Below.refl _ _) _) _
 have hc1 : ((w.alloc (.cells #[.int .i64 3,.int .i64 n] 43)).alloc (.cells #[.int .i64 1,.int .i64 i] 43)).cell? ⟨g,n.toNat - 1,none⟩ = some (.slice (some ⟨d,0,none⟩) m q):=zAb hb0 hc
 have H:=Lib.hid (zDf n hB1 hl h1 h2 (by simp; omega) hc1)
 clear hc hB hc1 hB1 h1 h2
 have d2 : decide (i < 0) = false:=by simp; omega
 have d3 : decide ((m : Int) ≤ i) = false:=by simp; omega
 go_enter Tryz.func28,Tryz.ntmps28
 go_wp2_with (go_at_call 53; refine H.out.mono ?_; rintro e w1 ⟨rfl,hb⟩; obtain ⟨hbc,hbf⟩:=bcell hb)
 go_ret2
 exact ⟨rfl,zAd hb0 hb⟩
theorem le2 (n : Nat) : n ≤ n + 1 + 1:=by omega
theorem zBX {w w1 : World} {o1 o2 o3 : Obj} (hb : Below (((w.alloc o1).alloc o2).alloc o3).heap.size (((w.alloc o1).alloc o2).alloc o3) w1) : w1.heap[w.heap.size + 1 + 1]? = some o3:=by
 have h:=heap_alloc_new ((w.alloc o1).alloc o2) o3
 have e : ((w.alloc o1).alloc o2).heap.size = w.heap.size + 1 + 1:=by simp
 rw [e] at h
 exact zAe h hb
theorem get_err {w : World} {B : Nat} (a n k i r : Int) (hr : r = 2 ∨ r = 3) (hcell : ∀ w1,Below w.heap.size w w1 → Calls Tryz.prog 28 #[.pointer (some ⟨B,0,none⟩),.agg #[.int .i64 a,.int .i64 n],.agg #[.int .i64 k,.int .i64 i]] w1 fun e w' => e = .returned (.tuple #[.pointer none,.int .i64 r]) ∧ Below w1.heap.size w1 w') :
  Calls Tryz.prog 14 #[.pointer (some ⟨B,0,none⟩),.agg #[.int .i64 a,.int .i64 n],.agg #[.int .i64 k,.int .i64 i]] w fun e w' => e = .returned (.tuple #[.agg #[.int .i64 0,.int .i64 0],.int .i64 r]) ∧ Below w.heap.size w w':=by
 have hb0 : Below w.heap.size w (((w.alloc (.cells #[.int .i64 a,.int .i64 n] 43)).alloc (.cells #[.int .i64 k,.int .i64 i] 43)).alloc (.cells #[.int .i64 0,.int .i64 0] 43)):=zAa (zAa (zAa (Below.refl _ _) _) _) _
 have H:=Lib.hid (hcell _ hb0)
 have d : (r != 0) = true:=by rcases hr with rfl | rfl <;> rfl
 clear hcell hr
 go_enter Tryz.func14,Tryz.ntmps14
 go_wp2_with (go_at_call 28; refine H.out.mono ?_; rintro e w1 ⟨rfl,hb⟩; obtain ⟨hbc,hbf⟩:=bcell hb)
 have BK:=zBX hb
 refine bodyPost_ret (zAq rfl _ _ (w.heap.size + 1 + 1) 43 #[.int .i64 0,.int .i64 0] (0,0) _ rfl (blk_put (blk_put BK 0 _ rfl) 1 _ rfl) Tryz.underlying43 rfl (by kernel_rfl)) rfl ?_
 exact ⟨rfl,((zAd hb0 hb).setCell (le2 _) _).setCell (le2 _) _⟩
theorem get_is {w : World} {B d : Nat} (a n k i : Int) (j : Nat) (u : Int) (hd : d < w.heap.size) (hu : w.cell? ⟨d,j,none⟩ = some (.int .i64 u)) (hcell : ∀ w1,Below w.heap.size w w1 → Calls Tryz.prog 28 #[.pointer (some ⟨B,0,none⟩),.agg #[.int .i64 a,.int .i64 n],.agg #[.int .i64 k,.int .i64 i]] w1 fun e w' => e = .returned (.tuple #[.pointer (some ⟨d,j,none⟩),.int .i64 0]) ∧ Below w1.heap.size w1 w') :
  Calls Tryz.prog 14 #[.pointer (some ⟨B,0,none⟩),.agg #[.int .i64 a,.int .i64 n],.agg #[.int .i64 k,.int .i64 i]] w fun e w' => e = .returned (.tuple #[.agg #[.int .i64 1,.int .i64 u],.int .i64 0]) ∧ Below w.heap.size w w':=by
 have hb0 : Below w.heap.size w (((w.alloc (.cells #[.int .i64 a,.int .i64 n] 43)).alloc (.cells #[.int .i64 k,.int .i64 i] 43)).alloc (.cells #[.int .i64 0,.int .i64 0] 43)):=zAa (zAa (zAa (Below.refl _ _) _) _) _
 have H:=Lib.hid (hcell _ hb0)
 have hu1:=Lib.hid (zAb hb0 hu)
 clear hcell hu
 go_enter Tryz.func14,Tryz.ntmps14
 go_wp2_with (first | (go_at_call 28; refine H.out.mono ?_; rintro e w1 ⟨rfl,hb⟩; have hu2:=zAb hb hu1.out; obtain ⟨hbc,hbf⟩:=bcell hb; have hz : w.heap.size + 1 + 1 < w1.heap.size:=(by have:=hb.size; simp at this; omega)) | (go_at_call 29; refine (zCa.calls u 1 u _ rfl).mono ?_; rintro e w2 ⟨rfl,hb2⟩; obtain ⟨hbc2,hbf2⟩:=bcell hb2))
 have BK:=zAe (zBX hb) hb2
 refine bodyPost_ret (zAq rfl _ _ (w.heap.size + 1 + 1) 43 #[.int .i64 1,.int .i64 u] (0,0) _ rfl (blk_put (blk_put BK 0 _ rfl) 1 _ rfl) Tryz.underlying43 rfl (by kernel_rfl)) rfl ?_
 exact ⟨rfl,((zAd (zAd hb0 hb) hb2).setCell (le2 _) _).setCell (le2 _) _⟩
theorem set_err {w : World} {B : Nat} (a n k i s x r : Int) (hr : r = 2 ∨ r = 3) (hcell : ∀ w1,Below w.heap.size w w1 → Calls Tryz.prog 28 #[.pointer (some ⟨B,0,none⟩),.agg #[.int .i64 a,.int .i64 n],.agg #[.int .i64 k,.int .i64 i]] w1 fun e w' => e = .returned (.tuple #[.pointer none,.int .i64 r]) ∧ Below w1.heap.size w1 w') :
  Calls Tryz.prog 13 #[.pointer (some ⟨B,0,none⟩),.agg #[.int .i64 a,.int .i64 n],.agg #[.int .i64 k,.int .i64 i],.agg #[.int .i64 s,.int .i64 x]] w fun e w' => e = .returned (.int .i64 r) ∧ Below w.heap.size w w':=by
 have hb0 : Below w.heap.size w (((w.alloc (.cells #[.int .i64 a,.int .i64 n] 43)).alloc (.cells #[.int .i64 k,.int .i64 i] 43)).alloc (.cells #[.int .i64 s,.int .i64 x] 43)):=zAa (zAa (zAa (Below.refl _ _) _) _) _
 have H:=Lib.hid (hcell _ hb0)
 have d : (r == 0) = false:=by rcases hr with rfl | rfl <;> rfl
 clear hcell hr
 go_enter Tryz.func13,Tryz.ntmps13
 go_wp2_with (go_at_call 28; refine H.out.mono ?_; rintro e w1 ⟨rfl,hb⟩; obtain ⟨hbc,hbf⟩:=bcell hb)
 go_ret
 exact ⟨rfl,zAd hb0 hb⟩
theorem set_nop {w : World} {B d j : Nat} (a n k i s x : Int) (hs : s ≠ 1) (hcell : ∀ w1,Below w.heap.size w w1 → Calls Tryz.prog 28 #[.pointer (some ⟨B,0,none⟩),.agg #[.int .i64 a,.int .i64 n],.agg #[.int .i64 k,.int .i64 i]] w1 fun e w' => e = .returned (.tuple #[.pointer (some ⟨d,j,none⟩),.int .i64 0]) ∧ Below w1.heap.size w1 w') :
  Calls Tryz.prog 13 #[.pointer (some ⟨B,0,none⟩),.agg #[.int .i64 a,.int .i64 n],.agg #[.int .i64 k,.int .i64 i],.agg #[.int .i64 s,.int .i64 x]] w fun e w' => e = .returned (.int .i64 0) ∧ Below w.heap.size w w':=by
 have hb0 : Below w.heap.size w (((w.alloc (.cells #[.int .i64 a,.int .i64 n] 43)).alloc (.cells #[.int .i64 k,.int .i64 i] 43)).alloc (.cells #[.int .i64 s,.int .i64 x] 43)):=zAa (zAa (zAa (Below.refl _ _) _) _) _
 have H:=Lib.hid (hcell _ hb0)
 have ds : (s == 1) = false:=by simp [hs]
 clear hcell hs
 go_enter Tryz.func13,Tryz.ntmps13
 go_wp2_with (go_at_call 28; refine H.out.mono ?_; rintro e w1 ⟨rfl,hb⟩; obtain ⟨hbc,hbf⟩:=bcell hb)
 go_ret
 exact ⟨rfl,zAd hb0 hb⟩
theorem set_is {w : World} {B d j : Nat} (a n k i x : Int) (u : Value) (hd : d < w.heap.size) (hu : w.cell? ⟨d,j,none⟩ = some u) (hf : w.frozen? ⟨d,j,none⟩ = false) (hcell : ∀ w1,Below w.heap.size w w1 → Calls Tryz.prog 28 #[.pointer (some ⟨B,0,none⟩),.agg #[.int .i64 a,.int .i64 n],.agg #[.int .i64 k,.int .i64 i]] w1 fun e w' => e = .returned (.tuple #[.pointer (some ⟨d,j,none⟩),.int .i64 0]) ∧ Below w1.heap.size w1 w') :
  Calls Tryz.prog 13 #[.pointer (some ⟨B,0,none⟩),.agg #[.int .i64 a,.int .i64 n],.agg #[.int .i64 k,.int .i64 i],.agg #[.int .i64 1,.int .i64 x]] w fun e w' => e = .returned (.int .i64 0) ∧ ∃ w1,Below w.heap.size w w1 ∧ w' = w1.setCell ⟨d,j,none⟩ (.int .i64 x):=by
 have hb0 : Below w.heap.size w (((w.alloc (.cells #[.int .i64 a,.int .i64 n] 43)).alloc (.cells #[.int .i64 k,.int .i64 i] 43)).alloc (.cells #[.int .i64 1,.int .i64 x] 43)):=zAa (zAa (zAa (Below.refl _ _) _) _) _
 have H:=Lib.hid (hcell _ hb0)
 have hu1:=Lib.hid (zAb hb0 hu)
 have hf1:=Lib.hid ((hb0.frozen (p:=⟨d,j,none⟩) hd).trans hf)
 have hd1 : d < (((w.alloc (.cells #[.int .i64 a,.int .i64 n] 43)).alloc (.cells #[.int .i64 k,.int .i64 i] 43)).alloc (.cells #[.int .i64 1,.int .i64 x] 43)).heap.size:=by simp; omega
 clear hcell hu hf
 go_enter Tryz.func13,Tryz.ntmps13
 go_wp2_with (go_at_call 28; refine H.out.mono ?_; rintro e w1 ⟨rfl,hb⟩; have hu2:=zAb hb hu1.out; have hf2:=(hb.frozen (p:=⟨d,j,none⟩) hd1).trans hf1.out; obtain ⟨hbc,hbf⟩:=bcell hb)
 go_ret
 exact ⟨rfl,_,zAd hb0 hb,rfl⟩
theorem len_of {w : World} {B m : Nat} (a n : Int) (A : Option Addr) (c : Nat) (b : Bool) (hm : m ≤ 1000000) (harr : ∀ w1,Below w.heap.size w w1 → Calls Tryz.prog 53 #[.pointer (some ⟨B,0,none⟩),.agg #[.int .i64 a,.int .i64 n]] w1 fun e w' => e = .returned (.tuple #[.slice A m c,.bool b]) ∧ Below w1.heap.size w1 w') :
  Calls Tryz.prog 38 #[.pointer (some ⟨B,0,none⟩),.agg #[.int .i64 a,.int .i64 n]] w fun e w' => e = .returned (.int .i64 m) ∧ Below w.heap.size w w':=by
 have hb0 : Below w.heap.size w (w.alloc (.cells #[.int .i64 a,.int .i64 n] 43)):=zAa (Below.refl _ _) _
 have H:=Lib.hid (harr _ hb0)
 clear harr
 go_enter Tryz.func38,Tryz.ntmps38
 go_wp2_with (go_at_call 53; refine H.out.mono ?_; rintro e w1 ⟨rfl,hb⟩; obtain ⟨hbc,hbf⟩:=bcell hb)
 go_ret
 exact ⟨rfl,zAd hb0 hb⟩
structure Chg (S : Nat → Prop) (w w' : World) : Prop where
 os : w'.os = w.os
 tape : w'.tape = w.tape
 output : w'.output = w.output
 size : w.heap.size ≤ w'.heap.size
 block : ∀ k,k < w.heap.size → ¬ S k → w'.heap[k]? = w.heap[k]?
theorem Chg.refl (S : Nat → Prop) (w : World) : Chg S w w:=⟨rfl,rfl,rfl,Nat.le_refl _,fun _ _ _ => rfl⟩
theorem Chg.of {S : Nat → Prop} {w w' : World} (h : Below w.heap.size w w') : Chg S w w':=⟨h.os,h.tape,h.output,h.size,fun k hk _ => h.block k hk⟩
theorem Chg.trans {S T : Nat → Prop} {a b c : World} (h : Chg S a b) (k : Chg T b c) (hs : ∀ x,x < a.heap.size → T x → S x) : Chg S a c :=
 ⟨k.os.trans h.os,k.tape.trans h.tape,k.output.trans h.output,Nat.le_trans h.size k.size,fun i hi hn => (k.block i (Nat.lt_of_lt_of_le hi h.size) (fun ht => hn (hs i hi ht))).trans (h.block i hi hn)⟩
theorem Chg.then {S : Nat → Prop} {a b c : World} (h : Chg S a b) (k : Below b.heap.size b c) : Chg S a c:=h.trans (T:=fun _ => False) (Chg.of k) (fun _ _ hf => hf.elim)
theorem Chg.set {S : Nat → Prop} {a b : World} (h : Chg S a b) (p : Addr) (u : Value) (hp : p.block < a.heap.size → S p.block) : Chg S a (b.setCell p u):=by
 refine ⟨?_,?_,?_,?_,fun k hk hn => ?_⟩
 ·simpa [World.setCell] using h.os
 ·simpa [World.setCell] using h.tape
 ·simpa [World.setCell] using h.output
 ·simpa [World.setCell] using h.size
 ·exact (Below.heap_setCell b p u k (fun e => hn (e ▸ hp (e ▸ hk)))).trans (h.block k hk hn)
theorem Chg.mono {S T : Nat → Prop} {a b : World} (h : Chg S a b) (hs : ∀ x,x < a.heap.size → S x → T x) : Chg T a b:=⟨h.os,h.tape,h.output,h.size,fun k hk hn => h.block k hk (fun hx => hn (hs k hk hx))⟩
theorem Chg.below {S : Nat → Prop} {a b : World} (h : Chg S a b) {n : Nat} (hn : n ≤ a.heap.size) (hs : ∀ x,x < n → ¬ S x) : Below n a b:=⟨h.os,h.tape,h.output,h.size,fun k hk => h.block k (Nat.lt_of_lt_of_le hk hn) (hs k hk)⟩
theorem zBR (w : World) (p : Addr) (u : Value) : (w.setCell p u).heap.size = w.heap.size:=by simp [World.setCell]
theorem add_any (B : Nat) (x n : Int) (w : World) (hc : w.cell? ⟨B,1,none⟩ = some (.int .i64 x)) (hf : w.frozen? ⟨B,1,none⟩ = false) (hx : 0 ≤ x) (hx1 : x ≤ 1000000) (hn : -1000000 ≤ n) (hn1 : n ≤ 1000000) :
  Calls Tryz.prog 27 #[.pointer (some ⟨B,1,none⟩),.int .i64 n] w fun e w' => e = .returned (.int .i64 (x + n)) ∧ w' = w.setCell ⟨B,1,none⟩ (.int .i64 (x + n)):=by
 have hadd:=run_call_add (P:=Tryz.prog) Tryz.func52 (by kernel_rfl) (by kernel_rfl) (by kernel_rfl) .i64 (by kernel_rfl) (y:=n) (s:=x + n) hc hf (by
  have e : IntKind.i64.wrap (x + n) = x + n:=IntWalk.i64_in _ (by omega)
  simp [Op.intArith,go_sem,e])
 go_enter Tryz.func27,Tryz.ntmps27
 go_wp2
 go_ret
 exact ⟨rfl,rfl⟩
theorem new_size (B : Nat) (n : Int) (w : World) (h : n < 0 ∨ 65536 < n) :
  Calls Tryz.prog 12 #[.pointer (some ⟨B,0,none⟩),.int .i64 n] w fun e w' => e = .returned (.tuple #[.agg #[.int .i64 0,.int .i64 0],.int .i64 4,.bool true]) ∧ Below w.heap.size w w':=by
 by_cases h0 : n < 0
 ·have d0 : decide (n < 0) = true:=by simp [h0]
  clear h h0
  go_enter Tryz.func12,Tryz.ntmps12
  go_wp2_with fail
  refine bodyPost_ret (zAr rfl _ _ w.heap.size 43 #[.int .i64 0,.int .i64 0] (0,0) _ rfl (heap_alloc_new w _) Tryz.underlying43 rfl (by kernel_rfl)) rfl ?_
  exact ⟨rfl,zAa (Below.refl _ _) _⟩
 ·have d0 : decide (n < 0) = false:=by simp; omega
  have d1 : decide (65536 < n) = true:=by simp; omega
  clear h h0
  go_enter Tryz.func12,Tryz.ntmps12
  go_wp2_with fail
  refine bodyPost_ret (zAr rfl _ _ w.heap.size 43 #[.int .i64 0,.int .i64 0] (0,0) _ rfl (heap_alloc_new w _) Tryz.underlying43 rfl (by kernel_rfl)) rfl ?_
  exact ⟨rfl,zAa (Below.refl _ _) _⟩
theorem add_blk {B : Nat} {v : Value} {x n : Int} {w : World} (hB : w.heap[B]? = some (.cells #[v,.int .i64 x] 37 (0,0))) (hx : 0 ≤ x) (hx1 : x ≤ 1000000) (hn : -1000000 ≤ n) (hn1 : n ≤ 1000000) :
  Calls Tryz.prog 27 #[.pointer (some ⟨B,1,none⟩),.int .i64 n] w fun e w' => e = .returned (.int .i64 (x + n)) ∧ w'.heap.size = w.heap.size ∧ w'.heap[B]? = some (.cells #[v,.int .i64 (x + n)] 37 (0,0)) ∧ Chg (· = B) w w':=by
 refine (add_any B x n w ((zAh hB 1).trans rfl) (zAc hB 1) hx hx1 hn hn1).mono fun e w' h => ?_
 obtain ⟨he,hw⟩:=h
 subst hw
 exact ⟨he,zBR _ _ _,blk_put hB 1 _ rfl,(Chg.refl _ _).set _ _ (fun _ => rfl)⟩
theorem new_full (B : Nat) (v : Value) (x n : Int) (w : World) (hB : w.heap[B]? = some (.cells #[v,.int .i64 x] 37 (0,0))) (h0 : 0 ≤ n) (h1 : n ≤ 65536) (hx : 0 ≤ x) (hx1 : x ≤ 262144) (hr : 262144 < x + n + 1) :
  Calls Tryz.prog 12 #[.pointer (some ⟨B,0,none⟩),.int .i64 n] w fun e w' => e = .returned (.tuple #[.agg #[.int .i64 0,.int .i64 0],.int .i64 0,.bool false]) ∧ w'.heap[B]? = some (.cells #[v,.int .i64 x] 37 (0,0)) ∧ Chg (· = B) w w':=by
 have d0 : decide (n < 0) = false:=by simp; omega
 have d1 : decide (65536 < n) = false:=by simp; omega
 have d2 : decide (262144 < x + (n + 1)) = true:=by simp; omega
 have hlt:=blk_lt hB
 have hB1:=Lib.hid (zAj hB (.cells #[.int .i64 0,.int .i64 0] 43))
 have hR1:=Lib.hid (heap_alloc_new w (.cells #[.int .i64 0,.int .i64 0] 43))
 have hne : w.heap.size ≠ B:=by omega
 have hw1 : IntKind.i64.wrap (-(n + 1)) = -(n + 1):=IntWalk.i64_in _ (by omega)
 clear hB
 go_enter Tryz.func12,Tryz.ntmps12
 go_wp2_with (go_at_call 27; refine (add_blk hB1.out hx (by omega) (by omega) (by omega)).mono ?_; rintro e w1 ⟨rfl,hz,hB2,hc⟩; have hsz:=Lib.hid hz; have hR2:=Lib.hid ((hc.block _ (by simp) hne).trans hR1.out); have HB2:=Lib.hid hB2; have HC:=Lib.hid hc; clear hz hB2 hc)
 refine (add_blk HB2.out (by omega) (by omega) (by omega) (by omega)).mono ?_
 rintro e w2 ⟨rfl,hz,hB2,hc⟩
 have e1 : x + (n + 1) + -(n + 1) = x:=by omega
 rw [e1] at hB2
 have hsz2:=Lib.hid hz
 have hR3:=Lib.hid ((hc.block _ (by rw [hsz.out]; simp) hne).trans hR2.out)
 have HB3:=Lib.hid hB2
 have HC2:=Lib.hid hc
 have c0:=bc_ hR3.out 0
 have c1:=bc_ hR3.out 1
 have f0:=zAc hR3.out 0
 have f1:=zAc hR3.out 1
 clear hz hB2 hc e1
 go_wp2_with fail
 refine bodyPost_ret (zAr rfl _ _ w.heap.size 43 #[.int .i64 0,.int .i64 0] (0,0) _ rfl (blk_put (blk_put hR3.out 0 _ rfl) 1 _ rfl) Tryz.underlying43 rfl (by kernel_rfl)) rfl ?_
 refine ⟨rfl,?_,?_⟩
 ·exact (Below.heap_setCell _ _ _ B (Ne.symm hne)).trans ((Below.heap_setCell _ _ _ B (Ne.symm hne)).trans HB3.out)
 ·exact ((((Chg.of (zAa (Below.refl _ _) _)).trans HC.out (fun _ _ h => h)).trans HC2.out (fun _ _ h => h)).set _ _ (fun h => absurd h (Nat.lt_irrefl _))).set _ _ (fun h => absurd h (Nat.lt_irrefl _))
theorem zCV {X : World} {cs : Array Value} {t n j : Nat} {v : Value} (hn : n = X.heap.size) (h : cs[j]? = some v) : (X.alloc (.cells cs t)).cell? ⟨n,j,none⟩ = some v:=by
 subst hn
 exact (zAh (heap_alloc_new X _) j).trans h
theorem zBu {X : World} {o : Obj} {a : Addr} {v : Value} (h : X.cell? a = some v) : (X.alloc o).cell? a = some v:=zAb ((Below.refl _ _).alloc (Nat.le_refl _) _) h
theorem zAC {X : World} {a : Addr} {v : Value} (h : X.cell? a = some v) : X.drew.cell? a = some v:=h
theorem zDd {W : World} {base size n e : Nat} {v : Value} {xs : List Value} (h : W.ownsRow base e size v n xs) : ∃ A c,v = .slice A n c:=by
 obtain ⟨_,ho⟩:=h
 rcases ho with ⟨rfl,h0⟩ | ⟨g',cap,cur,rfl,_⟩
 ·exact ⟨none,0,by rw [h0]⟩
 ·exact ⟨_,_,rfl⟩
theorem zBW {W : World} {base size n t g : Nat} {v : Value} {xs : List Value} {cs : Array Value} (h : W.ownsRow base 64 size v n xs) (hB : W.heap[g]? = some (.cells cs t (0,0))) (ht : t ≠ 64) : some g ≠ v.ownBlock:=by
 intro e
 obtain ⟨_,ho⟩:=h
 rcases ho with ⟨rfl,_⟩ | ⟨g',cap,cur,rfl,hb,hh,_⟩
 ·simp [Value.ownBlock] at e
 ·have e' : g = g':=by simpa [Value.ownBlock] using e
  subst e'
  rw [hh] at hB
  injection hB with hB
  injection hB with _ hB
  exact ht hB.symm
theorem Arrs.ne {W : World} {ok : Nat → Prop} {v : Value} {gs : List (Nat × Nat)} {L : List (List Int)} (h : Arrs W ok v gs L) {g t : Nat} {cs : Array Value} (hB : W.heap[g]? = some (.cells cs t (0,0))) (h1 : t ≠ 64) (h2 : t ≠ 3) : v.ownBlock ≠ some g ∧ g ∉ gs.map Prod.fst:=by
 refine ⟨fun e => zBW h.own hB h1 e.symm,fun hm => ?_⟩
 obtain ⟨j,hj,e⟩:=List.getElem_of_mem hm
 have hj' : j < gs.length:=by simpa using hj
 obtain ⟨_,cur,h3,_⟩:=h.at_ j hj' (h.len ▸ hj')
 have e' : gs[j].1 = g:=by simpa using e
 rw [e',hB] at h3
 injection h3 with h3
 injection h3 with _ h3
 exact h2 h3
theorem Arrs.step' {W W' : World} {ok : Nat → Prop} {v : Value} {gs : List (Nat × Nat)} {L : List (List Int)} (h : Arrs W ok v gs L) (hs : ∀ k,k < W.heap.size → (v.ownBlock = some k ∨ k ∈ (gs.map Prod.fst)) → W'.heap[k]? = W.heap[k]?) : Arrs W' ok v gs L :=
 ⟨zCj h.own (fun k hk => hs k (own_lt h.own k hk) (.inl hk)),h.vok,h.len,h.nd,fun j hj hj' => ⟨(h.at_ j hj hj').1,let ⟨cur,h1,h2⟩:=(h.at_ j hj hj').2; ⟨cur,(hs _ (blk_lt h1) (.inr (List.mem_map.2 ⟨_,List.getElem_mem hj,rfl⟩))).trans h1,h2⟩⟩⟩
theorem zCk : ∀ (L : List (List Int)) (xs : List Int),cellsOf (L ++ [xs]) = cellsOf L + (1 + xs.length)
 | [],xs => by simp [cellsOf]
 | l :: L,xs => by simp [cellsOf,zCk L xs]; omega
theorem rows_snoc : ∀ (gs : List (Nat × Nat)) (L : List (List Int)) (g : Nat × Nat) (xs : List Int),gs.length = L.length → rows (gs ++ [g]) (L ++ [xs]) = rows gs L ++ [.slice (some ⟨g.1,0,none⟩) xs.length g.2]
 | [],[],_,_,_ => rfl
 | g :: gs,l :: L,g',xs,h => by simp [rows,rows_snoc gs L g' xs (by simpa using h)]
 | [],_ :: _,_,_,h => by simp at h
 | _ :: _,[],_,_,h => by simp at h
theorem arrs_new {M w3 : World} {ok ok' : Nat → Prop} {v v1 : Value} {gs : List (Nat × Nat)} {L : List (List Int)} {g q : Nat} {xs : List Int} {cu : Array Value} (hA : Arrs M ok v gs L) (hg : M.heap[g]? = some (.cells cu 3 (0,0))) (hcu : cu.toList.take xs.length = ints xs) (hgn : g ∉ gs.map Prod.fst)
  (hown : w3.ownsRow 0 64 1 v1 (L.length + 1) (rows gs L ++ [.slice (some ⟨g,0,none⟩) xs.length q])) (hgr : M.grownBy w3 v.ownBlock) (hat : v1.ownBlock = v.ownBlock ∨ ∃ b,v1.ownBlock = some b ∧ M.heap.size ≤ b)
  (hok : ∀ k,ok k → ok' k) (hok' : ok' g) (hnew : ∀ k,M.heap.size ≤ k → k < w3.heap.size → ok' k) : Arrs w3 ok' v1 (gs ++ [(g,q)]) (L ++ [xs]):=by
 have hne : ∀ k (cs : Array Value),M.heap[k]? = some (.cells cs 3 (0,0)) → some k ≠ v.ownBlock:=fun k cs hk => zBW hA.own hk (by decide)
 refine ⟨?_,fun k hk => ?_,by simp [hA.len],?_,fun j hj hj' => ?_⟩
 ·rw [rows_snoc gs L (g,q) _ hA.len]
  simpa using hown
 ·rcases hat with h | ⟨b,h,hb⟩
  ·exact hok k (hA.vok k (h ▸ hk))
  ·rw [h] at hk
   injection hk with hk
   subst hk
   exact hnew _ hb (own_lt hown _ h)
 ·rw [List.map_append,List.nodup_append]
  exact ⟨hA.nd,by simp,fun a ha b hb => by simp at hb; subst hb; exact fun e => hgn (e ▸ ha)⟩
 ·by_cases hlt : j < gs.length
  ·have hl2 : j < L.length:=hA.len ▸ hlt
   obtain ⟨h,cur,h1,h2⟩:=hA.at_ j hlt hl2
   rw [List.getElem_append_left hlt,List.getElem_append_left hl2]
   exact ⟨hok _ h,cur,(hgr.block _ (blk_lt h1) (hne _ _ h1)).trans h1,h2⟩
  ·have hj2 : j = gs.length:=by simp at hj; omega
   subst hj2
   rw [List.getElem_append_right (by omega),List.getElem_append_right (by rw [hA.len]; omega)]
   simp only [Nat.sub_self,List.getElem_singleton]
   exact ⟨hok',cu,(hgr.block _ (blk_lt hg) (hne _ _ hg)).trans hg,by simpa [hA.len] using hcu⟩
theorem new_is (B : Nat) (v : Value) (gs : List (Nat × Nat)) (ok : Nat → Prop) (L : List (List Int)) (n : Int) (w : World) (hB : w.heap[B]? = some (.cells #[v,.int .i64 (cellsOf L)] 37 (0,0))) (hA : Arrs w ok v gs L) (hok : ok B) (h0 : 0 ≤ n) (h1 : n ≤ 65536) (hx : (L.length : Int) ≤ cellsOf L) (hr : cellsOf L + n + 1 ≤ 262144) :
  Calls Tryz.prog 12 #[.pointer (some ⟨B,0,none⟩),.int .i64 n] w fun e w' => e = .returned (.tuple #[.agg #[.int .i64 3,.int .i64 (L.length + 1)],.int .i64 0,.bool true]) ∧ HA w' B (fun k => ok k ∨ (w.heap.size ≤ k ∧ k < w'.heap.size)) (L ++ [List.replicate n.toNat 0]) ∧ Chg ok w w':=by
 have d0 : decide (n < 0) = false:=by simp; omega
 have d1 : decide (65536 < n) = false:=by simp; omega
 have d2 : decide (262144 < cellsOf L + (n + 1)) = false:=by simp; omega
 have hlt:=blk_lt hB
 have hB1:=Lib.hid (zAj hB (.cells #[.int .i64 0,.int .i64 0] 43))
 have hR1:=Lib.hid (heap_alloc_new w (.cells #[.int .i64 0,.int .i64 0] 43))
 have hne : w.heap.size ≠ B:=by omega
 have hmk:=print_make_int (P:=Tryz.prog) 64 3 (.int .i64 0) 8 Tryz.underlying64 (by kernel_rfl) rfl (by decide) n h0 (by omega)
 have hA1:=hA.step (W':=w.alloc (.cells #[.int .i64 0,.int .i64 0] 43)) (fun k hk _ => (zAa (Below.refl _ _) _).block k hk)
 clear hB hA
 go_enter Tryz.func12,Tryz.ntmps12
 go_wp2_with (go_at_call 27; refine (add_blk hB1.out (by omega) (by omega) (by omega) (by omega)).mono ?_; rintro e w1 ⟨rfl,hz,hB2,hc⟩; have hsz:=Lib.hid hz; have hR2:=Lib.hid ((hc.block _ (by simp) hne).trans hR1.out); have HB2:=Lib.hid hB2; have HC:=Lib.hid hc; clear hz hB2 hc)
 have hA2:=Lib.hid (hA1.step' (W':=w1) (fun k hk ho => HC.out.block k hk (fun e => by have h:=hA1.ne hB1.out (by decide) (by decide); rcases ho with ho | ho; exact h.1 (e ▸ ho); exact h.2 (e ▸ ho))))
 have k0:=bc_ HB2.out 0
 have hltB:=blk_lt HB2.out
 have hsM : Hid ((w1.drew.alloc (.cells (madeCells #[.int .i64 0] n.toNat) 3)).heap.size = w1.heap.size + 1):=Lib.hid (by simp)
 clear d0 d1 d2
 refine start_ (n:=12) (S:=fun w' => w'.cell? ⟨B,0,none⟩ = some v) (ds:=[8,11]) #[false,false,false,false,false,false,false,false,false,false,false,false] (by kernel_rfl) rfl rfl (k0) (fun hHeld => ?_)
 refine pu_ 0 29 ?_
 refine pu_ 1 30 ?_
 refine pu_ 2 31 ?_
 refine pu_ 3 32 ?_
 refine pu_ 5 34 ?_
 refine ta_ 4 33 hHeld ?_
 refine on_ 6 (some 35) (fun K hK => ?_)
 refine value_ (w1:=?_) (v:=?_) (by rfl) rfl ?_ ?_
 rotate_left 2
 ·go_simp
  constructor
  ·rfl
  ·rfl
 refine hK.out _ _ (zBu hHeld) (fun hHeld => ?_)
 clear hK K
 refine no_ ?_
 refine on_ 7 (some 36) (fun K hK => ?_)
 refine value_ (w1:=?_) (v:=?_) (by rfl) rfl ?_ ?_
 rotate_left 2
 ·go_simp
  constructor
  ·rfl
  ·rfl
 refine hK.out _ _ (zBu hHeld) (fun hHeld => ?_)
 clear hK K
 refine no_ ?_
 refine last_ (i:=8) (N:=some 37) #[true,true,true,true,true,true,true,true,true,false,false,false] rfl rfl (by kernel_rfl) (by decide) (fun K hK => ?_)
 refine zBp (w0:=w1.drew.alloc (.cells (madeCells #[.int .i64 0] n.toNat) 3)) 0 (by rfl) (.tmp 33) (.tmp 36) 30 64 (.slice none 0 0) 1 24 (by rfl) Tryz.underlying30 (by kernel_rfl) rfl (by decide) (by decide) v L.length (rows gs L) [.slice (some ⟨w1.heap.size,0,none⟩) n.toNat n.toNat] (by rfl) (by rw [hsM.out]; rfl) rfl (by simp [Value.oneCell']) (hA2.out.own.drew.alloc _) (Below.refl _ _) (Nat.zero_le _) (by omega) ?_
 intro v1 w3 hown hbel hgr hat
 obtain ⟨A1,cp1,rfl⟩:=zDd hown
 have HH:=Lib.hid (And.intro hown (And.intro hbel (And.intro hgr hat)))
 clear hown hbel hgr hat
 refine hK.out _ _ ?_
 clear hK K
 refine no_ ?_
 refine pu_ 9 38 ?_
 refine pu_ 10 39 ?_
 refine last_ (i:=11) (N:=none) #[true,true,true,true,true,true,true,true,true,true,true,true] rfl rfl (by kernel_rfl) (by decide) (fun K hK => ?_)
 have hB5 : w3.heap[B]? = some (.cells #[v,.int .i64 (cellsOf L + (n + 1))] 37 (0,0)):=(HH.out.2.2.1.block B (by simp; omega) (zBW hA2.out.own HB2.out (by decide))).trans ((zAa (zAk (Below.refl _ _)) _).block B (by omega) |>.trans HB2.out)
 have cB:=zAh hB5 0
 have fB:=zAc hB5 0
 refine skip_ (w1:=?_) (by rfl) rfl ?_ ?_
 rotate_left
 ·go_simp
  rfl
 refine hK.out _ _ ?_
 clear hK K
 refine done_ (by kernel_rfl) ?_
 obtain ⟨w4,hw4⟩ : ∃ w4,w4 = w3.setCell ⟨B,0,none⟩ (.slice A1 (L.length + 1) cp1):=⟨_,rfl⟩
 rw [← hw4]
 have hR3 : w3.heap[w.heap.size]? = some (.cells #[.int .i64 0,.int .i64 0] 43 (0,0)):=(HH.out.2.2.1.block _ (by rw [hsM.out,hsz.out]; simp; omega) (zBW hA2.out.own hR2.out (by decide))).trans (((zAa (zAk (Below.refl _ _)) _).block _ (by rw [hsz.out]; simp)).trans hR2.out)
 have HW:=Lib.hid hw4
 have hB6 : Hid (w4.heap[B]? = some (.cells #[.slice A1 (L.length + 1) cp1,.int .i64 (cellsOf L + (n + 1))] 37 (0,0))):=Lib.hid (by rw [hw4]; exact blk_put hB5 0 _ rfl)
 have hR4 : Hid (w4.heap[w.heap.size]? = some (.cells #[.int .i64 0,.int .i64 0] 43 (0,0))):=Lib.hid (by rw [hw4]; exact (Below.heap_setCell _ _ _ _ hne).trans hR3)
 have HB5:=Lib.hid hB5
 have HR3:=Lib.hid hR3
 clear cB fB hw4 hB5 hR3
 have c0:=bc_ hR4.out 0
 have c1:=bc_ hR4.out 1
 have f0:=zAc hR4.out 0
 have f1:=zAc hR4.out 1
 have cB:=bc_ hB6.out 0
 go_wp2_with fail
 refine bodyPost_ret (zAr rfl _ _ w.heap.size 43 #[.int .i64 3,.int .i64 (L.length + 1)] (0,0) _ rfl (blk_put (blk_put hR4.out 0 _ rfl) 1 _ rfl) Tryz.underlying43 rfl (by kernel_rfl)) rfl ?_
 refine ⟨rfl,?_,?_⟩
 ·have HM : Arrs (w1.drew.alloc (.cells (madeCells #[.int .i64 0] n.toNat) 3)) ok v gs L:=hA2.out.step (fun k hk _ => (zAa (zAk (Below.refl _ _)) _).block k hk)
  have hg : (w1.drew.alloc (.cells (madeCells #[.int .i64 0] n.toNat) 3)).heap[w1.heap.size]? = some (.cells (madeCells #[.int .i64 0] n.toNat) 3 (0,0)):=heap_alloc_new w1.drew _
  have hcu : (madeCells #[.int .i64 0] n.toNat).toList.take (List.replicate n.toNat (0 : Int)).length = ints (List.replicate n.toNat 0):=by
   rw [toList_madeCells_one]
   simp [ints]
  have hgn : w1.heap.size ∉ gs.map Prod.fst:=fun hm => by
   obtain ⟨j,hj,e⟩:=List.getElem_of_mem hm
   have hj' : j < gs.length:=by simpa using hj
   obtain ⟨_,cur,h3,_⟩:=hA2.out.at_ j hj' (hA2.out.len ▸ hj')
   have h:=blk_lt h3
   have e' : gs[j].1 = w1.heap.size:=by simpa using e
   omega
  have HO : w3.ownsRow 0 64 1 (.slice A1 (L.length + 1) cp1) (L.length + 1) (rows gs L ++ [.slice (some ⟨w1.heap.size,0,none⟩) (List.replicate n.toNat (0 : Int)).length n.toNat]):=by
   rw [List.length_replicate]
   exact HH.out.1
  have h3 : Arrs w3 (fun k => ok k ∨ (w.heap.size ≤ k ∧ k < w3.heap.size)) (.slice A1 (L.length + 1) cp1) (gs ++ [(w1.heap.size,n.toNat)]) (L ++ [List.replicate n.toNat 0]):=arrs_new HM hg hcu hgn HO HH.out.2.2.1 HH.out.2.2.2 (fun k hk => .inl hk) (.inr ⟨by rw [hsz.out]; simp,by have:=HH.out.2.1.size; rw [hsM.out] at this; omega⟩) (fun k hk hk2 => .inr ⟨by rw [hsM.out,hsz.out] at hk; simp at hk; omega,hk2⟩)
  have nB:=h3.ne HB5.out (by decide) (by decide)
  have nR:=h3.ne HR3.out (by decide) (by decide)
  have hs4 : w4.heap.size = w3.heap.size:=by rw [HW.out]; exact zBR _ _ _
  refine ⟨.inl hok,.slice A1 (L.length + 1) cp1,gs ++ [(w1.heap.size,n.toNat)],?_,?_⟩
  ·rw [zCk,List.length_replicate,Int.toNat_of_nonneg h0,show cellsOf L + (1 + n) = cellsOf L + (n + 1) by omega]
   exact (Below.heap_setCell _ _ _ B (Ne.symm hne)).trans ((Below.heap_setCell _ _ _ B (Ne.symm hne)).trans hB6.out)
  ·rw [zBR,zBR,hs4]
   refine h3.step' (fun k hk ho => ?_)
   have k1 : k ≠ w.heap.size:=fun e => by subst e; rcases ho with ho | ho; exact nR.1 ho; exact nR.2 ho
   have k2 : k ≠ B:=fun e => by subst e; rcases ho with ho | ho; exact nB.1 ho; exact nB.2 ho
   exact (Below.heap_setCell _ _ _ k k1).trans ((Below.heap_setCell _ _ _ k k1).trans (by rw [HW.out]; exact Below.heap_setCell _ _ _ k k2))
 ·have H1 : Chg ok w w1:=(Chg.of (zAa (Below.refl _ _) _)).trans HC.out (fun x _ h => h ▸ hok)
  have H2 : Chg ok w (w1.drew.alloc (.cells (madeCells #[.int .i64 0] n.toNat) 3)):=H1.then (zAa (zAk (Below.refl _ _)) _)
  have hb:=HH.out.2.1
  have H3 : Chg ok w w3:=H2.trans (T:=fun k => v.ownBlock = some k) ⟨hb.os,hb.tape,hb.output,hb.size,fun k hk hn => HH.out.2.2.1.block k hk (fun e => hn e.symm)⟩ (fun k _ hk => hA2.out.vok k hk)
  have H4 : Chg ok w w4:=by rw [HW.out]; exact H3.set _ _ (fun _ => hok)
  exact (H4.set _ _ (fun h => absurd h (Nat.lt_irrefl _))).set _ _ (fun h => absurd h (Nat.lt_irrefl _))
end Go.Proofs.YtkhlfdcjgooogaaGreat.P
