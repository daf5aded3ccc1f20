import Derived.Test.YtkhlfdcjgooogaaGreatWMore
import Derived.Test.YtkhlfdcjgooogaaGreatHeapI
import Derived.Test.YtkhlfdcjgooogaaGreatVbB
import Derived.Test.YtkhlfdcjgooogaaGreatPf15
import Derived.Test.YtkhlfdcjgooogaaGreatPf11
set_option maxRecDepth 100000
set_option maxHeartbeats 16000000
set_option linter.unusedVariables false
set_option linter.unusedSimpArgs false
set_option linter.unusedSectionVars false
namespace Go.Proofs.YtkhlfdcjgooogaaGreat.P
open Go.RowKit Go.Proofs.YtkhlfdcjgooogaaGreatW.PrintWords Go.Proofs.YtkhlfdcjgooogaaGreatW.PrintLast Go.Proofs.YtkhlfdcjgooogaaGreatW.PrintMore
theorem zCu (X : World) (o o' : Obj) : ((X.alloc o).alloc o').heap[X.heap.size + 1]? = some o':=by
 have h:=heap_alloc_new (X.alloc o) o'
 have e : (X.alloc o).heap.size = X.heap.size + 1:=by simp
 rwa [e] at h
theorem blk_new2 (X : World) (o o' o2 : Obj) : (((X.alloc o).alloc o').alloc o2).heap[X.heap.size + 1 + 1]? = some o2:=by
 have h:=heap_alloc_new ((X.alloc o).alloc o') o2
 have e : ((X.alloc o).alloc o').heap.size = X.heap.size + 1 + 1:=by simp
 rwa [e] at h
theorem sh1 : (1,-3,0,true) = binG (⟨#[47]⟩ : ByteArray).toList 1 7 1 (-2):=by kernel_rfl
theorem sh2 : (1,1,0,true) = binG (⟨#[37]⟩ : ByteArray).toList 1 7 1 (-2):=by kernel_rfl
theorem sh3 : (0,0,1,true) = binG (⟨#[47]⟩ : ByteArray).toList 1 1 1 0:=by kernel_rfl
theorem sh4 : (0,0,0,false) = binG (⟨#[38,38]⟩ : ByteArray).toList 1 1 1 0:=by kernel_rfl
def zBx.f : Option Bool:=some true
theorem HA.empty {W : World} {B : Nat} (h : W.heap[B]? = some (.cells #[.slice none 0 0,.int .i64 0] 37 (0,0))) : HA W B (fun k => k = B) [] :=
 ⟨rfl,.slice none 0 0,[],h,⟨by simp [rows],.inl ⟨rfl,rfl⟩⟩,fun k hk => by simp [Value.ownBlock] at hk,rfl,by simp,fun j hj => by simp at hj⟩
theorem sh_new {B : Nat} {ok : Nat → Prop} {w : World} (h : HA w B ok []) : Calls Tryz.prog 12 #[.pointer (some ⟨B,0,none⟩),.int .i64 2] w fun e w' => e = .returned (.tuple #[.agg #[.int .i64 3,.int .i64 1],.int .i64 0,.bool true]) ∧ HA w' B (ext ok w w') [[0,0]] ∧ Chg ok w w':=hnew 2 h (by decide)
theorem sh_set {B : Nat} {ok : Nat → Prop} {w : World} (h : HA w B ok [[0,0]]) : Calls Tryz.prog 13 #[.pointer (some ⟨B,0,none⟩),.agg #[.int .i64 3,.int .i64 1],.agg #[.int .i64 1,.int .i64 1],.agg #[.int .i64 1,.int .i64 9]] w fun e w' => e = .returned (.int .i64 0) ∧ HA w' B ok [[0,9]] ∧ Chg ok w w':=hset 3 1 1 1 1 9 h (by decide)
theorem sh_get1 {B : Nat} {ok : Nat → Prop} {w : World} (h : HA w B ok [[0,9]]) : Calls Tryz.prog 14 #[.pointer (some ⟨B,0,none⟩),.agg #[.int .i64 3,.int .i64 1],.agg #[.int .i64 1,.int .i64 1]] w fun e w' => e = .returned (.tuple #[.agg #[.int .i64 1,.int .i64 9],.int .i64 0]) ∧ Below w.heap.size w w':=hget 3 1 1 1 h (by decide)
theorem sh_get2 {B : Nat} {ok : Nat → Prop} {w : World} (h : HA w B ok [[0,9]]) : Calls Tryz.prog 14 #[.pointer (some ⟨B,0,none⟩),.agg #[.int .i64 3,.int .i64 1],.agg #[.int .i64 1,.int .i64 2]] w fun e w' => e = .returned (.tuple #[.agg #[.int .i64 0,.int .i64 0],.int .i64 2]) ∧ Below w.heap.size w w':=hget 3 1 1 2 h (by decide)
theorem sh_get3 {B : Nat} {ok : Nat → Prop} {w : World} (h : HA w B ok [[0,9]]) : Calls Tryz.prog 14 #[.pointer (some ⟨B,0,none⟩),.agg #[.int .i64 3,.int .i64 0],.agg #[.int .i64 1,.int .i64 0]] w fun e w' => e = .returned (.tuple #[.agg #[.int .i64 0,.int .i64 0],.int .i64 3]) ∧ Below w.heap.size w w':=hget 3 0 1 0 h (by decide)
theorem ext_not {ok : Nat → Prop} {w w' : World} {g : Nat} (h : ¬ ok g) (hg : g < w.heap.size) : ¬ ext ok w w' g:=by
 rintro (h1 | h1)
 ·exact h h1
 ·omega
theorem zBx.calls (r : Bool) (w : World) (h : zBx.f = some r) : Calls Tryz.prog 4 #[] w fun e w' => e = .returned (.bool r) ∧ Below w.heap.size w w':=by
 obtain rfl:=Option.some.inj h
 clear h
 have HB:=Lib.hid (Below.refl w.heap.size w)
 go_enter Tryz.func4,Tryz.ntmps4
 go_wp2_with fail
 refine (zAz.calls (7) 1 (7) _ rfl).mono ?_
 rintro e w1 ⟨rfl,hb_⟩
 have nB:=Lib.hid (zAd (by (with_reducible repeat (first | apply zAa | apply zAf | apply zAi)); exact HB.out) hb_)
 clear HB hb_
 have HB:=nB
 clear nB
 go_wp2_with fail
 refine (zAz.calls (-2) 1 (-2) _ rfl).mono ?_
 rintro e w2 ⟨rfl,hb_⟩
 have nB:=Lib.hid (zAd (by (with_reducible repeat (first | apply zAa | apply zAf | apply zAi)); exact HB.out) hb_)
 clear HB hb_
 have HB:=nB
 clear nB
 go_wp2_with fail
 refine (bin_is ⟨#[47]⟩ 1 7 1 (-2) 1 (-3) 0 true sh1 _).mono ?_
 rintro e w3 ⟨rfl,hb_⟩
 have nB:=Lib.hid (zAd (by (with_reducible repeat (first | apply zAa | apply zAf | apply zAi)); exact HB.out) hb_)
 clear HB hb_
 have HB:=nB
 clear nB
 go_wp2_with fail
 refine (zAz.calls (7) 1 (7) _ rfl).mono ?_
 rintro e w4 ⟨rfl,hb_⟩
 have n_a : Hid (w4.heap[w3.heap.size]? = some (.cells #[.int .i64 1,.int .i64 (-3)] 43 (0,0))):=Lib.hid (zAe (by first | exact heap_alloc_new _ _ | exact zCu _ _ _ | exact blk_new2 _ _ _ _ | (refine zAj ?_ _; exact heap_alloc_new _ _) | (refine zAj ?_ _; refine zAj ?_ _; exact heap_alloc_new _ _) | (refine zAj ?_ _; exact zCu _ _ _)) hb_)
 have K_a:=n_a
 clear n_a
 have lt_a : w3.heap.size < w4.heap.size:=blk_lt K_a.out
 have c_a_0:=bc_ K_a.out 0
 have f_a_0:=zAc K_a.out 0
 have c_a_1:=bc_ K_a.out 1
 have f_a_1:=zAc K_a.out 1
 have nB:=Lib.hid (zAd (by (with_reducible repeat (first | apply zAa | apply zAf | apply zAi)); exact HB.out) hb_)
 clear HB hb_
 have HB:=nB
 clear nB
 go_wp2_with fail
 refine (zAz.calls (-2) 1 (-2) _ rfl).mono ?_
 rintro e w5 ⟨rfl,hb_⟩
 have n_a : Hid (w5.heap[w3.heap.size]? = some (.cells #[.int .i64 1,.int .i64 (-3)] 43 (0,0))):=Lib.hid (zAe (by (with_reducible repeat (first | apply zAo | apply zAl | apply zAj)); exact K_a.out) hb_)
 clear K_a lt_a c_a_0 c_a_1 f_a_0 f_a_1
 have K_a:=n_a
 clear n_a
 have lt_a : w3.heap.size < w5.heap.size:=blk_lt K_a.out
 have c_a_0:=bc_ K_a.out 0
 have f_a_0:=zAc K_a.out 0
 have c_a_1:=bc_ K_a.out 1
 have f_a_1:=zAc K_a.out 1
 have nB:=Lib.hid (zAd (by (with_reducible repeat (first | apply zAa | apply zAf | apply zAi)); exact HB.out) hb_)
 clear HB hb_
 have HB:=nB
 clear nB
 go_wp2_with fail
 refine (bin_is ⟨#[37]⟩ 1 7 1 (-2) 1 1 0 true sh2 _).mono ?_
 rintro e w6 ⟨rfl,hb_⟩
 have n_a : Hid (w6.heap[w3.heap.size]? = some (.cells #[.int .i64 1,.int .i64 (-3)] 43 (0,0))):=Lib.hid (zAe (by (with_reducible repeat (first | apply zAo | apply zAl | apply zAj)); exact K_a.out) hb_)
 clear K_a lt_a c_a_0 c_a_1 f_a_0 f_a_1
 have K_a:=n_a
 clear n_a
 have lt_a : w3.heap.size < w6.heap.size:=blk_lt K_a.out
 have c_a_0:=bc_ K_a.out 0
 have f_a_0:=zAc K_a.out 0
 have c_a_1:=bc_ K_a.out 1
 have f_a_1:=zAc K_a.out 1
 have nB:=Lib.hid (zAd (by (with_reducible repeat (first | apply zAa | apply zAf | apply zAi)); exact HB.out) hb_)
 clear HB hb_
 have HB:=nB
 clear nB
 go_wp2_with fail
 refine (zAz.calls (1) 1 (1) _ rfl).mono ?_
 rintro e w7 ⟨rfl,hb_⟩
 have n_a : Hid (w7.heap[w3.heap.size]? = some (.cells #[.int .i64 1,.int .i64 (-3)] 43 (0,0))):=Lib.hid (zAe (by (with_reducible repeat (first | apply zAo | apply zAl | apply zAj)); exact K_a.out) hb_)
 have n_b : Hid (w7.heap[w6.heap.size]? = some (.cells #[.int .i64 1,.int .i64 1] 43 (0,0))):=Lib.hid (zAe (by first | exact heap_alloc_new _ _ | exact zCu _ _ _ | exact blk_new2 _ _ _ _ | (refine zAj ?_ _; exact heap_alloc_new _ _) | (refine zAj ?_ _; refine zAj ?_ _; exact heap_alloc_new _ _) | (refine zAj ?_ _; exact zCu _ _ _)) hb_)
 clear K_a lt_a c_a_0 c_a_1 f_a_0 f_a_1
 have K_a:=n_a
 clear n_a
 have lt_a : w3.heap.size < w7.heap.size:=blk_lt K_a.out
 have c_a_0:=bc_ K_a.out 0
 have f_a_0:=zAc K_a.out 0
 have c_a_1:=bc_ K_a.out 1
 have f_a_1:=zAc K_a.out 1
 have K_b:=n_b
 clear n_b
 have lt_b : w6.heap.size < w7.heap.size:=blk_lt K_b.out
 have c_b_0:=bc_ K_b.out 0
 have f_b_0:=zAc K_b.out 0
 have c_b_1:=bc_ K_b.out 1
 have f_b_1:=zAc K_b.out 1
 have nB:=Lib.hid (zAd (by (with_reducible repeat (first | apply zAa | apply zAf | apply zAi)); exact HB.out) hb_)
 clear HB hb_
 have HB:=nB
 clear nB
 go_wp2_with fail
 refine (zAz.calls (0) 1 (0) _ rfl).mono ?_
 rintro e w8 ⟨rfl,hb_⟩
 have n_a : Hid (w8.heap[w3.heap.size]? = some (.cells #[.int .i64 1,.int .i64 (-3)] 43 (0,0))):=Lib.hid (zAe (by (with_reducible repeat (first | apply zAo | apply zAl | apply zAj)); exact K_a.out) hb_)
 have n_b : Hid (w8.heap[w6.heap.size]? = some (.cells #[.int .i64 1,.int .i64 1] 43 (0,0))):=Lib.hid (zAe (by (with_reducible repeat (first | apply zAo | apply zAl | apply zAj)); exact K_b.out) hb_)
 clear K_a lt_a c_a_0 c_a_1 f_a_0 f_a_1 K_b lt_b c_b_0 c_b_1 f_b_0 f_b_1
 have K_a:=n_a
 clear n_a
 have lt_a : w3.heap.size < w8.heap.size:=blk_lt K_a.out
 have c_a_0:=bc_ K_a.out 0
 have f_a_0:=zAc K_a.out 0
 have c_a_1:=bc_ K_a.out 1
 have f_a_1:=zAc K_a.out 1
 have K_b:=n_b
 clear n_b
 have lt_b : w6.heap.size < w8.heap.size:=blk_lt K_b.out
 have c_b_0:=bc_ K_b.out 0
 have f_b_0:=zAc K_b.out 0
 have c_b_1:=bc_ K_b.out 1
 have f_b_1:=zAc K_b.out 1
 have nB:=Lib.hid (zAd (by (with_reducible repeat (first | apply zAa | apply zAf | apply zAi)); exact HB.out) hb_)
 clear HB hb_
 have HB:=nB
 clear nB
 go_wp2_with fail
 refine (bin_is ⟨#[47]⟩ 1 1 1 0 0 0 1 true sh3 _).mono ?_
 rintro e w9 ⟨rfl,hb_⟩
 have n_a : Hid (w9.heap[w3.heap.size]? = some (.cells #[.int .i64 1,.int .i64 (-3)] 43 (0,0))):=Lib.hid (zAe (by (with_reducible repeat (first | apply zAo | apply zAl | apply zAj)); exact K_a.out) hb_)
 have n_b : Hid (w9.heap[w6.heap.size]? = some (.cells #[.int .i64 1,.int .i64 1] 43 (0,0))):=Lib.hid (zAe (by (with_reducible repeat (first | apply zAo | apply zAl | apply zAj)); exact K_b.out) hb_)
 clear K_a lt_a c_a_0 c_a_1 f_a_0 f_a_1 K_b lt_b c_b_0 c_b_1 f_b_0 f_b_1
 have K_a:=n_a
 clear n_a
 have lt_a : w3.heap.size < w9.heap.size:=blk_lt K_a.out
 have c_a_0:=bc_ K_a.out 0
 have f_a_0:=zAc K_a.out 0
 have c_a_1:=bc_ K_a.out 1
 have f_a_1:=zAc K_a.out 1
 have K_b:=n_b
 clear n_b
 have lt_b : w6.heap.size < w9.heap.size:=blk_lt K_b.out
 have c_b_0:=bc_ K_b.out 0
 have f_b_0:=zAc K_b.out 0
 have c_b_1:=bc_ K_b.out 1
 have f_b_1:=zAc K_b.out 1
 have nB:=Lib.hid (zAd (by (with_reducible repeat (first | apply zAa | apply zAf | apply zAi)); exact HB.out) hb_)
 clear HB hb_
 have HB:=nB
 clear nB
 go_wp2_with fail
 refine (zAz.calls (1) 1 (1) _ rfl).mono ?_
 rintro e w10 ⟨rfl,hb_⟩
 have n_a : Hid (w10.heap[w3.heap.size]? = some (.cells #[.int .i64 1,.int .i64 (-3)] 43 (0,0))):=Lib.hid (zAe (by (with_reducible repeat (first | apply zAo | apply zAl | apply zAj)); exact K_a.out) hb_)
 have n_b : Hid (w10.heap[w6.heap.size]? = some (.cells #[.int .i64 1,.int .i64 1] 43 (0,0))):=Lib.hid (zAe (by (with_reducible repeat (first | apply zAo | apply zAl | apply zAj)); exact K_b.out) hb_)
 clear K_a lt_a c_a_0 c_a_1 f_a_0 f_a_1 K_b lt_b c_b_0 c_b_1 f_b_0 f_b_1
 have K_a:=n_a
 clear n_a
 have lt_a : w3.heap.size < w10.heap.size:=blk_lt K_a.out
 have c_a_0:=bc_ K_a.out 0
 have f_a_0:=zAc K_a.out 0
 have c_a_1:=bc_ K_a.out 1
 have f_a_1:=zAc K_a.out 1
 have K_b:=n_b
 clear n_b
 have lt_b : w6.heap.size < w10.heap.size:=blk_lt K_b.out
 have c_b_0:=bc_ K_b.out 0
 have f_b_0:=zAc K_b.out 0
 have c_b_1:=bc_ K_b.out 1
 have f_b_1:=zAc K_b.out 1
 have nB:=Lib.hid (zAd (by (with_reducible repeat (first | apply zAa | apply zAf | apply zAi)); exact HB.out) hb_)
 clear HB hb_
 have HB:=nB
 clear nB
 go_wp2_with fail
 refine (zAz.calls (0) 1 (0) _ rfl).mono ?_
 rintro e w11 ⟨rfl,hb_⟩
 have n_a : Hid (w11.heap[w3.heap.size]? = some (.cells #[.int .i64 1,.int .i64 (-3)] 43 (0,0))):=Lib.hid (zAe (by (with_reducible repeat (first | apply zAo | apply zAl | apply zAj)); exact K_a.out) hb_)
 have n_b : Hid (w11.heap[w6.heap.size]? = some (.cells #[.int .i64 1,.int .i64 1] 43 (0,0))):=Lib.hid (zAe (by (with_reducible repeat (first | apply zAo | apply zAl | apply zAj)); exact K_b.out) hb_)
 clear K_a lt_a c_a_0 c_a_1 f_a_0 f_a_1 K_b lt_b c_b_0 c_b_1 f_b_0 f_b_1
 have K_a:=n_a
 clear n_a
 have lt_a : w3.heap.size < w11.heap.size:=blk_lt K_a.out
 have c_a_0:=bc_ K_a.out 0
 have f_a_0:=zAc K_a.out 0
 have c_a_1:=bc_ K_a.out 1
 have f_a_1:=zAc K_a.out 1
 have K_b:=n_b
 clear n_b
 have lt_b : w6.heap.size < w11.heap.size:=blk_lt K_b.out
 have c_b_0:=bc_ K_b.out 0
 have f_b_0:=zAc K_b.out 0
 have c_b_1:=bc_ K_b.out 1
 have f_b_1:=zAc K_b.out 1
 have nB:=Lib.hid (zAd (by (with_reducible repeat (first | apply zAa | apply zAf | apply zAi)); exact HB.out) hb_)
 clear HB hb_
 have HB:=nB
 clear nB
 go_wp2_with fail
 refine (bin_is ⟨#[38,38]⟩ 1 1 1 0 0 0 0 false sh4 _).mono ?_
 rintro e w12 ⟨rfl,hb_⟩
 have n_a : Hid (w12.heap[w3.heap.size]? = some (.cells #[.int .i64 1,.int .i64 (-3)] 43 (0,0))):=Lib.hid (zAe (by (with_reducible repeat (first | apply zAo | apply zAl | apply zAj)); exact K_a.out) hb_)
 have n_b : Hid (w12.heap[w6.heap.size]? = some (.cells #[.int .i64 1,.int .i64 1] 43 (0,0))):=Lib.hid (zAe (by (with_reducible repeat (first | apply zAo | apply zAl | apply zAj)); exact K_b.out) hb_)
 clear K_a lt_a c_a_0 c_a_1 f_a_0 f_a_1 K_b lt_b c_b_0 c_b_1 f_b_0 f_b_1
 have K_a:=n_a
 clear n_a
 have lt_a : w3.heap.size < w12.heap.size:=blk_lt K_a.out
 have c_a_0:=bc_ K_a.out 0
 have f_a_0:=zAc K_a.out 0
 have c_a_1:=bc_ K_a.out 1
 have f_a_1:=zAc K_a.out 1
 have K_b:=n_b
 clear n_b
 have lt_b : w6.heap.size < w12.heap.size:=blk_lt K_b.out
 have c_b_0:=bc_ K_b.out 0
 have f_b_0:=zAc K_b.out 0
 have c_b_1:=bc_ K_b.out 1
 have f_b_1:=zAc K_b.out 1
 have nB:=Lib.hid (zAd (by (with_reducible repeat (first | apply zAa | apply zAf | apply zAi)); exact HB.out) hb_)
 clear HB hb_
 have HB:=nB
 clear nB
 go_wp2_with fail
 have hW : Hid (w12.heap.size + 1 + 1 = ((w12.alloc (.cells #[.int .i64 0,.int .i64 0] 43)).alloc (.cells #[.slice none 0 0,.int .i64 0] 37)).heap.size):=Lib.hid (by simp)
 have hle : w.heap.size ≤ w12.heap.size:=HB.out.size
 refine (sh_new (HA.empty (B:=w12.heap.size + 1) (zCu _ _ _))).mono ?_
 rintro e w13 ⟨rfl,hH_,hC_⟩
 obtain ⟨ok,hok⟩ : ∃ ok,ok = ext (fun k => k = w12.heap.size + 1) ((w12.alloc (.cells #[.int .i64 0,.int .i64 0] 43)).alloc (.cells #[.slice none 0 0,.int .i64 0] 37)) w13:=⟨_,rfl⟩
 have N_a : Hid (¬ ok w3.heap.size):=Lib.hid (by rw [hok]; exact ext_not (by omega) (by rw [← hW.out]; omega))
 have N_b : Hid (¬ ok w6.heap.size):=Lib.hid (by rw [hok]; exact ext_not (by omega) (by rw [← hW.out]; omega))
 have n_a : Hid (w13.heap[w3.heap.size]? = some (.cells #[.int .i64 1,.int .i64 (-3)] 43 (0,0))):=Lib.hid ((hC_.block _ (by rw [← hW.out]; omega) (by omega)).trans (by (with_reducible repeat (first | apply zAo | apply zAl | apply zAj)); exact K_a.out))
 have n_b : Hid (w13.heap[w6.heap.size]? = some (.cells #[.int .i64 1,.int .i64 1] 43 (0,0))):=Lib.hid ((hC_.block _ (by rw [← hW.out]; omega) (by omega)).trans (by (with_reducible repeat (first | apply zAo | apply zAl | apply zAj)); exact K_b.out))
 clear K_a lt_a c_a_0 c_a_1 f_a_0 f_a_1 K_b lt_b c_b_0 c_b_1 f_b_0 f_b_1
 have K_a:=n_a
 clear n_a
 have lt_a : w3.heap.size < w13.heap.size:=blk_lt K_a.out
 have c_a_0:=bc_ K_a.out 0
 have f_a_0:=zAc K_a.out 0
 have c_a_1:=bc_ K_a.out 1
 have f_a_1:=zAc K_a.out 1
 have K_b:=n_b
 clear n_b
 have lt_b : w6.heap.size < w13.heap.size:=blk_lt K_b.out
 have c_b_0:=bc_ K_b.out 0
 have f_b_0:=zAc K_b.out 0
 have c_b_1:=bc_ K_b.out 1
 have f_b_1:=zAc K_b.out 1
 rw [← hok] at hH_
 have HH:=Lib.hid hH_
 have hsz13 : w12.heap.size + 1 + 1 ≤ w13.heap.size:=by rw [hW.out]; exact hC_.size
 have OKB : Hid (∀ k,ok k → w.heap.size ≤ k ∧ k < w13.heap.size):=Lib.hid (by rintro k hk; rw [hok] at hk; rcases hk with hk | ⟨h1,h2⟩; constructor <;> omega; rw [← hW.out] at h1; constructor <;> omega)
 have nB:=Lib.hid ((zAa (zAa HB.out _) _).trans (hC_.below (by rw [← hW.out]; omega) (fun x hx => by omega)))
 clear HB hC_ hH_ hok
 have HB:=nB
 clear nB
 go_wp2_with fail
 have hW13 : Hid ((w13.alloc (.cells #[.int .i64 3,.int .i64 1] 43)).drew.heap.size = w13.heap.size + 1):=Lib.hid (by simp)
 have K_l0 : Hid ((w13.alloc (.cells #[.int .i64 3,.int .i64 1] 43)).drew.heap[w13.heap.size]? = some (.cells #[.int .i64 3,.int .i64 1] 43 (0,0))):=Lib.hid (heap_alloc_new w13 _)
 refine start_ (n:=35) (S:=fun w' => w'.cell? ⟨w3.heap.size,0,none⟩ = some (.int .i64 1) ∧ w'.cell? ⟨w3.heap.size,1,none⟩ = some (.int .i64 (-3)) ∧ w'.cell? ⟨w6.heap.size,0,none⟩ = some (.int .i64 1) ∧ w'.cell? ⟨w6.heap.size,1,none⟩ = some (.int .i64 1) ∧ w'.cell? ⟨w13.heap.size,0,none⟩ = some (.int .i64 3) ∧ w'.cell? ⟨w13.heap.size,1,none⟩ = some (.int .i64 1)) (ds:=[32]) #[false,false,false,false,false,false,false,false,false,false,false,false,false,false,false,false,false,false,false,false,false,false,false,false,false,false,false,false,false,false,false,false,false,false,false] (by kernel_rfl) rfl rfl ⟨zAC (zBu c_a_0),zAC (zBu c_a_1),zAC (zBu c_b_0),zAC (zBu c_b_1),zAC (zCV rfl rfl),zAC (zCV rfl rfl)⟩ (fun hHeld => ?_)
 refine ta_ 0 59 hHeld ?_
 refine on_ 1 (some 60) (fun K hK => ?_)
 refine gs_ Tryz.func11 #[.int .i64 (-3)] ?_
 with_reducible refine (zAz.calls (-3) 1 (-3) _ rfl).mono ?_
 rintro e w14 ⟨rfl,hb_w14⟩
 refine ⟨_,rfl,?_⟩
 have B_w14:=Lib.hid (zAd (zAk (zAa (Below.refl w13.heap.size w13) (.cells #[.int .i64 3,.int .i64 1] 43))) hb_w14)
 have Q_w14:=Lib.hid hb_w14
 clear hb_w14
 refine hK.out _ _ ⟨zAb Q_w14.out hHeld.1,zAb Q_w14.out hHeld.2.1,zAb Q_w14.out hHeld.2.2.1,zAb Q_w14.out hHeld.2.2.2.1,zAb Q_w14.out hHeld.2.2.2.2.1,zAb Q_w14.out hHeld.2.2.2.2.2⟩ (fun hHeld => ?_)
 clear hK K
 refine no_ ?_
 refine pu_ 2 61 ?_
 refine pu_ 3 62 ?_
 refine ta_ 4 63 hHeld ?_
 refine on_ 5 (some 64) (fun K hK => ?_)
 refine gs_ Tryz.func11 #[.int .i64 (1)] ?_
 with_reducible refine (zAz.calls (1) 1 (1) _ rfl).mono ?_
 rintro e w15 ⟨rfl,hb_w15⟩
 refine ⟨_,rfl,?_⟩
 have B_w15:=Lib.hid (zAd B_w14.out hb_w15)
 have Q_w15:=Lib.hid hb_w15
 clear hb_w15
 refine hK.out _ _ ⟨zAb Q_w15.out hHeld.1,zAb Q_w15.out hHeld.2.1,zAb Q_w15.out hHeld.2.2.1,zAb Q_w15.out hHeld.2.2.2.1,zAb Q_w15.out hHeld.2.2.2.2.1,zAb Q_w15.out hHeld.2.2.2.2.2⟩ (fun hHeld => ?_)
 clear hK K
 refine no_ ?_
 refine pu_ 6 65 ?_
 refine pu_ 7 66 ?_
 refine pu_ 8 67 ?_
 refine pu_ 9 68 ?_
 refine pu_ 10 69 ?_
 refine pu_ 11 70 ?_
 refine pu_ 12 71 ?_
 refine pu_ 13 72 ?_
 refine pu_ 14 73 ?_
 refine pu_ 15 74 ?_
 refine pu_ 16 75 ?_
 refine pu_ 17 76 ?_
 refine pu_ 18 77 ?_
 refine pu_ 19 78 ?_
 refine pu_ 20 79 ?_
 refine pu_ 21 80 ?_
 refine pu_ 22 81 ?_
 refine pu_ 23 82 ?_
 refine pu_ 24 83 ?_
 refine pu_ 25 84 ?_
 refine pu_ 26 85 ?_
 refine pu_ 27 86 ?_
 refine pu_ 28 87 ?_
 refine ta_ 29 88 hHeld ?_
 refine on_ 30 (some 89) (fun K hK => ?_)
 refine gs_ Tryz.func11 #[.int .i64 (1)] ?_
 with_reducible refine (zAz.calls (1) 1 (1) _ rfl).mono ?_
 rintro e w16 ⟨rfl,hb_w16⟩
 refine ⟨_,rfl,?_⟩
 have B_w16:=Lib.hid (zAd B_w15.out hb_w16)
 have Q_w16:=Lib.hid hb_w16
 clear hb_w16
 refine hK.out _ _ ⟨zAb Q_w16.out hHeld.1,zAb Q_w16.out hHeld.2.1,zAb Q_w16.out hHeld.2.2.1,zAb Q_w16.out hHeld.2.2.2.1,zAb Q_w16.out hHeld.2.2.2.2.1,zAb Q_w16.out hHeld.2.2.2.2.2⟩ (fun hHeld => ?_)
 clear hK K
 refine no_ ?_
 refine on_ 31 (some 90) (fun K hK => ?_)
 refine gs_ Tryz.func11 #[.int .i64 (9)] ?_
 with_reducible refine (zAz.calls (9) 1 (9) _ rfl).mono ?_
 rintro e w17 ⟨rfl,hb_w17⟩
 refine ⟨_,rfl,?_⟩
 have B_w17:=Lib.hid (zAd B_w16.out hb_w17)
 have Q_w17:=Lib.hid hb_w17
 clear hb_w17
 refine hK.out _ _ ⟨zAb Q_w17.out hHeld.1,zAb Q_w17.out hHeld.2.1,zAb Q_w17.out hHeld.2.2.1,zAb Q_w17.out hHeld.2.2.2.1,zAb Q_w17.out hHeld.2.2.2.2.1,zAb Q_w17.out hHeld.2.2.2.2.2⟩ (fun hHeld => ?_)
 clear hK K
 refine no_ ?_
 refine last_ (i:=32) (N:=some 91) #[true,true,true,true,true,true,true,true,true,true,true,true,true,true,true,true,true,true,true,true,true,true,true,true,true,true,true,true,true,true,true,true,true,false,false] rfl rfl (by kernel_rfl) (by decide) (fun K hK => ?_)
 refine gs_ Tryz.func13 #[.pointer (some ⟨w12.heap.size + 1,0,none⟩),.agg #[.int .i64 3,.int .i64 1],.agg #[.int .i64 1,.int .i64 1],.agg #[.int .i64 1,.int .i64 9]] ?_
 with_reducible refine (sh_set (HH.out.below B_w17.out)).mono ?_
 rintro e w18 ⟨rfl,hH_,hC_⟩
 refine ⟨_,rfl,?_⟩
 have HH18:=Lib.hid hH_
 have HC18:=Lib.hid hC_
 clear hH_ hC_
 refine hK.out _ _ ?_
 clear hK K
 refine no_ ?_
 refine pu_ 33 92 ?_
 refine pu_ 34 93 ?_
 refine done_ (by kernel_rfl) ?_
 have K_l : Hid (w18.heap[w13.heap.size]? = some (.cells #[.int .i64 3,.int .i64 1] 43 (0,0))):=Lib.hid ((HC18.out.block _ (by have:=B_w17.out.size; have h2:=Q_w14.out.size; have h3:=Q_w15.out.size; have h4:=Q_w16.out.size; have h5:=Q_w17.out.size; rw [hW13.out] at h2; omega) (fun h => by have:=(OKB.out _ h).2; omega)).trans (zAe (zAe (zAe (zAe K_l0.out Q_w14.out) Q_w15.out) Q_w16.out) Q_w17.out))
 have nB:=Lib.hid ((HB.out.trans (B_w17.out.mono HB.out.size)).trans (HC18.out.below (Nat.le_trans HB.out.size B_w17.out.size) (fun x hx h => by have:=(OKB.out _ h).1; omega)))
 clear K_a lt_a c_a_0 c_a_1 f_a_0 f_a_1 K_b lt_b c_b_0 c_b_1 f_b_0 f_b_1 HB
 have HB:=nB
 clear nB
 have lt_l : w13.heap.size < w18.heap.size:=blk_lt K_l.out
 have c_l_0:=bc_ K_l.out 0
 have f_l_0:=zAc K_l.out 0
 have c_l_1:=bc_ K_l.out 1
 have f_l_1:=zAc K_l.out 1
 go_wp2_with fail
 have Cl0:=Lib.hid c_l_0
 have Cl1:=Lib.hid c_l_1
 refine start_ (n:=10) (S:=fun w' => w'.cell? ⟨w13.heap.size,0,none⟩ = some (.int .i64 3) ∧ w'.cell? ⟨w13.heap.size,1,none⟩ = some (.int .i64 1)) (ds:=[8]) #[false,false,false,false,false,false,false,false,false,false] (by kernel_rfl) rfl rfl ⟨zAC (Cl0.out),zAC (Cl1.out)⟩ (fun hHeld => ?_)
 refine pu_ 0 95 ?_
 refine ta_ 1 96 hHeld ?_
 refine join_ (σ:=Nat) 2 #[true,true,true,true,true,true,true,true,false,false] (fun s => [(97,.agg #[.int .i64 1,.int .i64 1]),(98,.tuple #[.agg #[.int .i64 1,.int .i64 9],.int .i64 0]),(94,.tuple #[.agg #[.int .i64 1,.int .i64 9],.int .i64 0]),(99,.agg #[.int .i64 1,.int .i64 9]),(100,.int .i64 0),(17,.pointer (some ⟨s,0,none⟩))]) (fun s w' => Below w18.heap.size w18 w' ∧ w'.heap[s]? = some (.cells #[.int .i64 0,.int .i64 0] 43 (0,0)) ∧ w18.heap.size ≤ s) ?_ ?_
 rotate_left
 ·intro hCont
  refine two_ (i:=2) (j:=7) (Ni:=some 97) (Nj:=some 17) #[true,true,true,false,false,false,false,false,false,false] #[true,true,false,false,false,false,false,true,false,false] rfl rfl rfl rfl (by kernel_rfl) (by decide) (by decide) (fun K hK => ?_) (fun K hK => ?_)
  ·skip
   refine gs_ Tryz.func11 #[.int .i64 1] ?_
   with_reducible refine (zAz.calls 1 1 1 _ rfl).mono ?_
   rintro e w_p2 ⟨rfl,hb_⟩
   refine ⟨_,rfl,?_⟩
   have B_p2:=Lib.hid (zAd ((zAk (Below.refl w18.heap.size w18))) hb_)
   clear hb_
   refine hK.out _ _ ⟨zAb B_p2.out Cl0.out,zAb B_p2.out Cl1.out⟩ (fun hHeld => ?_)
   clear hK K
   refine no_ ?_
   refine two_ (i:=3) (j:=7) (Ni:=some 98) (Nj:=some 17) #[true,true,true,true,false,false,false,false,false,false] #[true,true,true,false,false,false,false,true,false,false] rfl rfl rfl rfl (by kernel_rfl) (by decide) (by decide) (fun K hK => ?_) (fun K hK => ?_)
   ·skip
    refine gs_ Tryz.func14 #[.pointer (some ⟨w12.heap.size + 1,0,none⟩),.agg #[.int .i64 3,.int .i64 1],.agg #[.int .i64 1,.int .i64 1]] ?_
    with_reducible refine (sh_get1 (HH18.out.below (B_p2.out))).mono ?_
    rintro e w_p2_3 ⟨rfl,hb_⟩
    refine ⟨_,rfl,?_⟩
    have B_p2_3:=Lib.hid (zAd (B_p2.out) hb_)
    clear hb_
    refine hK.out _ _ ⟨zAb B_p2_3.out Cl0.out,zAb B_p2_3.out Cl1.out⟩ (fun hHeld => ?_)
    clear hK K
    refine no_ ?_
    refine pu_ 4 94 ?_
    refine pu_ 5 99 ?_
    refine pu_ 6 100 ?_
    refine on_ 7 (some 17) (fun K hK => ?_)
    refine value_ (w1:=?_) (v:=?_) (by rfl) rfl ?_ ?_
    rotate_left 2
    ·go_simp
     constructor
     ·rfl
     ·rfl
    have B_p2_3_7:=Lib.hid (zAa (B_p2_3.out) (.cells #[.int .i64 0,.int .i64 0] 43))
    have N_p2_3_7 : Hid ((w_p2_3.alloc (.cells #[.int .i64 0,.int .i64 0] 43)).heap[w_p2_3.heap.size]? = some (.cells #[.int .i64 0,.int .i64 0] 43 (0,0))):=Lib.hid (heap_alloc_new w_p2_3 _)
    have LE_N_p2_3_7 : Hid (w18.heap.size ≤ w_p2_3.heap.size):=Lib.hid ((B_p2_3.out).size)
    refine hK.out _ _ ⟨zAb B_p2_3_7.out Cl0.out,zAb B_p2_3_7.out Cl1.out⟩ (fun hHeld => ?_)
    clear hK K
    refine no_ ?_
    exact norm_ (by simp only [putAll,Act.put,List.setIfInBounds_toArray,List.set_cons_zero,List.set_cons_succ]) (hCont w_p2_3.heap.size _ ⟨B_p2_3_7.out,N_p2_3_7.out,LE_N_p2_3_7.out⟩)
   ·skip
    refine value_ (w1:=?_) (v:=?_) (by rfl) rfl ?_ ?_
    rotate_left 2
    ·go_simp
     constructor
     ·rfl
     ·rfl
    have B_p2_7:=Lib.hid (zAa (B_p2.out) (.cells #[.int .i64 0,.int .i64 0] 43))
    have N_p2_7 : Hid ((w_p2.alloc (.cells #[.int .i64 0,.int .i64 0] 43)).heap[w_p2.heap.size]? = some (.cells #[.int .i64 0,.int .i64 0] 43 (0,0))):=Lib.hid (heap_alloc_new w_p2 _)
    have LE_N_p2_7 : Hid (w18.heap.size ≤ w_p2.heap.size):=Lib.hid ((B_p2.out).size)
    refine hK.out _ _ ⟨zAb B_p2_7.out Cl0.out,zAb B_p2_7.out Cl1.out⟩ (fun hHeld => ?_)
    clear hK K
    refine no_ ?_
    refine on_ 3 (some 98) (fun K hK => ?_)
    refine gs_ Tryz.func14 #[.pointer (some ⟨w12.heap.size + 1,0,none⟩),.agg #[.int .i64 3,.int .i64 1],.agg #[.int .i64 1,.int .i64 1]] ?_
    with_reducible refine (sh_get1 (HH18.out.below (B_p2_7.out))).mono ?_
    rintro e w_p2_7_3 ⟨rfl,hb_⟩
    refine ⟨_,rfl,?_⟩
    have B_p2_7_3:=Lib.hid (zAd (B_p2_7.out) hb_)
    have N_p2_7_3:=Lib.hid (zAe N_p2_7.out hb_)
    have LE_N_p2_7_3:=Lib.hid LE_N_p2_7.out
    clear hb_
    refine hK.out _ _ ⟨zAb B_p2_7_3.out Cl0.out,zAb B_p2_7_3.out Cl1.out⟩ (fun hHeld => ?_)
    clear hK K
    refine no_ ?_
    refine pu_ 4 94 ?_
    refine pu_ 5 99 ?_
    refine pu_ 6 100 ?_
    exact norm_ (by simp only [putAll,Act.put,List.setIfInBounds_toArray,List.set_cons_zero,List.set_cons_succ]) (hCont w_p2.heap.size _ ⟨B_p2_7_3.out,N_p2_7_3.out,LE_N_p2_7_3.out⟩)
  ·skip
   refine value_ (w1:=?_) (v:=?_) (by rfl) rfl ?_ ?_
   rotate_left 2
   ·go_simp
    constructor
    ·rfl
    ·rfl
   have B_p7:=Lib.hid (zAa ((zAk (Below.refl w18.heap.size w18))) (.cells #[.int .i64 0,.int .i64 0] 43))
   have N_p7 : Hid ((w18.drew.alloc (.cells #[.int .i64 0,.int .i64 0] 43)).heap[w18.heap.size]? = some (.cells #[.int .i64 0,.int .i64 0] 43 (0,0))):=Lib.hid (heap_alloc_new w18.drew _)
   have LE_N_p7 : Hid (w18.heap.size ≤ w18.heap.size):=Lib.hid (Nat.le_refl _)
   refine hK.out _ _ ⟨zAb B_p7.out Cl0.out,zAb B_p7.out Cl1.out⟩ (fun hHeld => ?_)
   clear hK K
   refine no_ ?_
   refine on_ 2 (some 97) (fun K hK => ?_)
   refine gs_ Tryz.func11 #[.int .i64 1] ?_
   with_reducible refine (zAz.calls 1 1 1 _ rfl).mono ?_
   rintro e w_p7_2 ⟨rfl,hb_⟩
   refine ⟨_,rfl,?_⟩
   have B_p7_2:=Lib.hid (zAd (B_p7.out) hb_)
   have N_p7_2:=Lib.hid (zAe N_p7.out hb_)
   have LE_N_p7_2:=Lib.hid LE_N_p7.out
   clear hb_
   refine hK.out _ _ ⟨zAb B_p7_2.out Cl0.out,zAb B_p7_2.out Cl1.out⟩ (fun hHeld => ?_)
   clear hK K
   refine no_ ?_
   refine on_ 3 (some 98) (fun K hK => ?_)
   refine gs_ Tryz.func14 #[.pointer (some ⟨w12.heap.size + 1,0,none⟩),.agg #[.int .i64 3,.int .i64 1],.agg #[.int .i64 1,.int .i64 1]] ?_
   with_reducible refine (sh_get1 (HH18.out.below (B_p7_2.out))).mono ?_
   rintro e w_p7_2_3 ⟨rfl,hb_⟩
   refine ⟨_,rfl,?_⟩
   have B_p7_2_3:=Lib.hid (zAd (B_p7_2.out) hb_)
   have N_p7_2_3:=Lib.hid (zAe N_p7_2.out hb_)
   have LE_N_p7_2_3:=Lib.hid LE_N_p7_2.out
   clear hb_
   refine hK.out _ _ ⟨zAb B_p7_2_3.out Cl0.out,zAb B_p7_2_3.out Cl1.out⟩ (fun hHeld => ?_)
   clear hK K
   refine no_ ?_
   refine pu_ 4 94 ?_
   refine pu_ 5 99 ?_
   refine pu_ 6 100 ?_
   exact norm_ (by simp only [putAll,Act.put,List.setIfInBounds_toArray,List.set_cons_zero,List.set_cons_succ]) (hCont w18.heap.size _ ⟨B_p7_2_3.out,N_p7_2_3.out,LE_N_p7_2_3.out⟩)
 rintro sp wFp ⟨hF1p,hF2p,hF3p⟩
 have hHeld:=True.intro
 refine norm_ (a':=?_) ?_ ?_
 rotate_left
 ·simp only [putAll,Act.put,List.setIfInBounds_toArray,List.set_cons_zero,List.set_cons_succ]
  rfl
 refine last_ (i:=8) (N:=none) #[true,true,true,true,true,true,true,true,true,false] rfl rfl (by kernel_rfl) (by decide) (fun K hK => ?_)
 have cv0:=(zAh hF2p 0).trans rfl
 have cv1:=(zAh hF2p 1).trans rfl
 have fv0:=zAc hF2p 0
 have fv1:=zAc hF2p 1
 refine skip_ (w1:=?_) (by rfl) rfl ?_ ?_
 rotate_left
 ·go_simp
  rfl
 refine hK.out _ _ ?_
 clear hK K
 refine pu_ 9 18 ?_
 refine done_ (by kernel_rfl) ?_
 go_wp2_with fail
 clear cv0 cv1 fv0 fv1 Cl0 Cl1
 obtain ⟨w20,hw_⟩ : ∃ w20,w20 = (wFp.setCell ⟨sp,0,none⟩ (.int .i64 1)).setCell ⟨sp,1,none⟩ (.int .i64 9):=⟨_,rfl⟩
 rw [← hw_]
 have hb_ : Below w18.heap.size w18 w20:=by rw [hw_]; exact Below.setCell (Below.setCell (hF1p) (p:=⟨sp,_,none⟩) hF3p _) (p:=⟨sp,_,none⟩) hF3p _
 have n_v : Hid (w20.heap[sp]? = some (.cells #[.int .i64 1,.int .i64 9] 43 (0,0))):=Lib.hid (by rw [hw_]; exact blk_put (blk_put (hF2p) 0 _ rfl) 1 _ rfl)
 have n_l : Hid (w20.heap[w13.heap.size]? = some (.cells #[.int .i64 3,.int .i64 1] 43 (0,0))):=Lib.hid (zAe K_l.out hb_)
 clear K_l lt_l c_l_0 c_l_1 f_l_0 f_l_1
 have K_l:=n_l
 clear n_l
 have lt_l : w13.heap.size < w20.heap.size:=blk_lt K_l.out
 have c_l_0:=bc_ K_l.out 0
 have f_l_0:=zAc K_l.out 0
 have c_l_1:=bc_ K_l.out 1
 have f_l_1:=zAc K_l.out 1
 have K_v:=n_v
 clear n_v
 have lt_v : sp < w20.heap.size:=blk_lt K_v.out
 have c_v_0:=bc_ K_v.out 0
 have f_v_0:=zAc K_v.out 0
 have c_v_1:=bc_ K_v.out 1
 have f_v_1:=zAc K_v.out 1
 have HH20:=Lib.hid (HH18.out.below hb_)
 have nB:=Lib.hid (zAd HB.out hb_)
 clear HB hb_ hw_
 have HB:=nB
 clear nB
 have Cl0:=Lib.hid c_l_0
 have Cl1:=Lib.hid c_l_1
 go_wp2_with fail
 refine start_ (n:=10) (S:=fun w' => w'.cell? ⟨w13.heap.size,0,none⟩ = some (.int .i64 3) ∧ w'.cell? ⟨w13.heap.size,1,none⟩ = some (.int .i64 1)) (ds:=[8]) #[false,false,false,false,false,false,false,false,false,false] (by kernel_rfl) rfl rfl ⟨zAC (Cl0.out),zAC (Cl1.out)⟩ (fun hHeld => ?_)
 refine pu_ 0 102 ?_
 refine ta_ 1 103 hHeld ?_
 refine join_ (σ:=Nat) 2 #[true,true,true,true,true,true,true,true,false,false] (fun s => [(104,.agg #[.int .i64 1,.int .i64 2]),(105,.tuple #[.agg #[.int .i64 0,.int .i64 0],.int .i64 2]),(101,.tuple #[.agg #[.int .i64 0,.int .i64 0],.int .i64 2]),(106,.agg #[.int .i64 0,.int .i64 0]),(107,.int .i64 2),(19,.pointer (some ⟨s,0,none⟩))]) (fun s w' => Below w20.heap.size w20 w' ∧ w'.heap[s]? = some (.cells #[.int .i64 0,.int .i64 0] 43 (0,0)) ∧ w20.heap.size ≤ s) ?_ ?_
 rotate_left
 ·intro hCont
  refine two_ (i:=2) (j:=7) (Ni:=some 104) (Nj:=some 19) #[true,true,true,false,false,false,false,false,false,false] #[true,true,false,false,false,false,false,true,false,false] rfl rfl rfl rfl (by kernel_rfl) (by decide) (by decide) (fun K hK => ?_) (fun K hK => ?_)
  ·skip
   refine gs_ Tryz.func11 #[.int .i64 2] ?_
   with_reducible refine (zAz.calls 2 1 2 _ rfl).mono ?_
   rintro e w_q2 ⟨rfl,hb_⟩
   refine ⟨_,rfl,?_⟩
   have B_q2:=Lib.hid (zAd ((zAk (Below.refl w20.heap.size w20))) hb_)
   clear hb_
   refine hK.out _ _ ⟨zAb B_q2.out Cl0.out,zAb B_q2.out Cl1.out⟩ (fun hHeld => ?_)
   clear hK K
   refine no_ ?_
   refine two_ (i:=3) (j:=7) (Ni:=some 105) (Nj:=some 19) #[true,true,true,true,false,false,false,false,false,false] #[true,true,true,false,false,false,false,true,false,false] rfl rfl rfl rfl (by kernel_rfl) (by decide) (by decide) (fun K hK => ?_) (fun K hK => ?_)
   ·skip
    refine gs_ Tryz.func14 #[.pointer (some ⟨w12.heap.size + 1,0,none⟩),.agg #[.int .i64 3,.int .i64 1],.agg #[.int .i64 1,.int .i64 2]] ?_
    with_reducible refine (sh_get2 (HH20.out.below (B_q2.out))).mono ?_
    rintro e w_q2_3 ⟨rfl,hb_⟩
    refine ⟨_,rfl,?_⟩
    have B_q2_3:=Lib.hid (zAd (B_q2.out) hb_)
    clear hb_
    refine hK.out _ _ ⟨zAb B_q2_3.out Cl0.out,zAb B_q2_3.out Cl1.out⟩ (fun hHeld => ?_)
    clear hK K
    refine no_ ?_
    refine pu_ 4 101 ?_
    refine pu_ 5 106 ?_
    refine pu_ 6 107 ?_
    refine on_ 7 (some 19) (fun K hK => ?_)
    refine value_ (w1:=?_) (v:=?_) (by rfl) rfl ?_ ?_
    rotate_left 2
    ·go_simp
     constructor
     ·rfl
     ·rfl
    have B_q2_3_7:=Lib.hid (zAa (B_q2_3.out) (.cells #[.int .i64 0,.int .i64 0] 43))
    have N_q2_3_7 : Hid ((w_q2_3.alloc (.cells #[.int .i64 0,.int .i64 0] 43)).heap[w_q2_3.heap.size]? = some (.cells #[.int .i64 0,.int .i64 0] 43 (0,0))):=Lib.hid (heap_alloc_new w_q2_3 _)
    have LE_N_q2_3_7 : Hid (w20.heap.size ≤ w_q2_3.heap.size):=Lib.hid ((B_q2_3.out).size)
    refine hK.out _ _ ⟨zAb B_q2_3_7.out Cl0.out,zAb B_q2_3_7.out Cl1.out⟩ (fun hHeld => ?_)
    clear hK K
    refine no_ ?_
    exact norm_ (by simp only [putAll,Act.put,List.setIfInBounds_toArray,List.set_cons_zero,List.set_cons_succ]) (hCont w_q2_3.heap.size _ ⟨B_q2_3_7.out,N_q2_3_7.out,LE_N_q2_3_7.out⟩)
   ·skip
    refine value_ (w1:=?_) (v:=?_) (by rfl) rfl ?_ ?_
    rotate_left 2
    ·go_simp
     constructor
     ·rfl
     ·rfl
    have B_q2_7:=Lib.hid (zAa (B_q2.out) (.cells #[.int .i64 0,.int .i64 0] 43))
    have N_q2_7 : Hid ((w_q2.alloc (.cells #[.int .i64 0,.int .i64 0] 43)).heap[w_q2.heap.size]? = some (.cells #[.int .i64 0,.int .i64 0] 43 (0,0))):=Lib.hid (heap_alloc_new w_q2 _)
    have LE_N_q2_7 : Hid (w20.heap.size ≤ w_q2.heap.size):=Lib.hid ((B_q2.out).size)
    refine hK.out _ _ ⟨zAb B_q2_7.out Cl0.out,zAb B_q2_7.out Cl1.out⟩ (fun hHeld => ?_)
    clear hK K
    refine no_ ?_
    refine on_ 3 (some 105) (fun K hK => ?_)
    refine gs_ Tryz.func14 #[.pointer (some ⟨w12.heap.size + 1,0,none⟩),.agg #[.int .i64 3,.int .i64 1],.agg #[.int .i64 1,.int .i64 2]] ?_
    with_reducible refine (sh_get2 (HH20.out.below (B_q2_7.out))).mono ?_
    rintro e w_q2_7_3 ⟨rfl,hb_⟩
    refine ⟨_,rfl,?_⟩
    have B_q2_7_3:=Lib.hid (zAd (B_q2_7.out) hb_)
    have N_q2_7_3:=Lib.hid (zAe N_q2_7.out hb_)
    have LE_N_q2_7_3:=Lib.hid LE_N_q2_7.out
    clear hb_
    refine hK.out _ _ ⟨zAb B_q2_7_3.out Cl0.out,zAb B_q2_7_3.out Cl1.out⟩ (fun hHeld => ?_)
    clear hK K
    refine no_ ?_
    refine pu_ 4 101 ?_
    refine pu_ 5 106 ?_
    refine pu_ 6 107 ?_
    exact norm_ (by simp only [putAll,Act.put,List.setIfInBounds_toArray,List.set_cons_zero,List.set_cons_succ]) (hCont w_q2.heap.size _ ⟨B_q2_7_3.out,N_q2_7_3.out,LE_N_q2_7_3.out⟩)
  ·skip
   refine value_ (w1:=?_) (v:=?_) (by rfl) rfl ?_ ?_
   rotate_left 2
   ·go_simp
    constructor
    ·rfl
    ·rfl
   have B_q7:=Lib.hid (zAa ((zAk (Below.refl w20.heap.size w20))) (.cells #[.int .i64 0,.int .i64 0] 43))
   have N_q7 : Hid ((w20.drew.alloc (.cells #[.int .i64 0,.int .i64 0] 43)).heap[w20.heap.size]? = some (.cells #[.int .i64 0,.int .i64 0] 43 (0,0))):=Lib.hid (heap_alloc_new w20.drew _)
   have LE_N_q7 : Hid (w20.heap.size ≤ w20.heap.size):=Lib.hid (Nat.le_refl _)
   refine hK.out _ _ ⟨zAb B_q7.out Cl0.out,zAb B_q7.out Cl1.out⟩ (fun hHeld => ?_)
   clear hK K
   refine no_ ?_
   refine on_ 2 (some 104) (fun K hK => ?_)
   refine gs_ Tryz.func11 #[.int .i64 2] ?_
   with_reducible refine (zAz.calls 2 1 2 _ rfl).mono ?_
   rintro e w_q7_2 ⟨rfl,hb_⟩
   refine ⟨_,rfl,?_⟩
   have B_q7_2:=Lib.hid (zAd (B_q7.out) hb_)
   have N_q7_2:=Lib.hid (zAe N_q7.out hb_)
   have LE_N_q7_2:=Lib.hid LE_N_q7.out
   clear hb_
   refine hK.out _ _ ⟨zAb B_q7_2.out Cl0.out,zAb B_q7_2.out Cl1.out⟩ (fun hHeld => ?_)
   clear hK K
   refine no_ ?_
   refine on_ 3 (some 105) (fun K hK => ?_)
   refine gs_ Tryz.func14 #[.pointer (some ⟨w12.heap.size + 1,0,none⟩),.agg #[.int .i64 3,.int .i64 1],.agg #[.int .i64 1,.int .i64 2]] ?_
   with_reducible refine (sh_get2 (HH20.out.below (B_q7_2.out))).mono ?_
   rintro e w_q7_2_3 ⟨rfl,hb_⟩
   refine ⟨_,rfl,?_⟩
   have B_q7_2_3:=Lib.hid (zAd (B_q7_2.out) hb_)
   have N_q7_2_3:=Lib.hid (zAe N_q7_2.out hb_)
   have LE_N_q7_2_3:=Lib.hid LE_N_q7_2.out
   clear hb_
   refine hK.out _ _ ⟨zAb B_q7_2_3.out Cl0.out,zAb B_q7_2_3.out Cl1.out⟩ (fun hHeld => ?_)
   clear hK K
   refine no_ ?_
   refine pu_ 4 101 ?_
   refine pu_ 5 106 ?_
   refine pu_ 6 107 ?_
   exact norm_ (by simp only [putAll,Act.put,List.setIfInBounds_toArray,List.set_cons_zero,List.set_cons_succ]) (hCont w20.heap.size _ ⟨B_q7_2_3.out,N_q7_2_3.out,LE_N_q7_2_3.out⟩)
 rintro sq wFq ⟨hF1q,hF2q,hF3q⟩
 have hHeld:=True.intro
 refine norm_ (a':=?_) ?_ ?_
 rotate_left
 ·simp only [putAll,Act.put,List.setIfInBounds_toArray,List.set_cons_zero,List.set_cons_succ]
  rfl
 refine last_ (i:=8) (N:=none) #[true,true,true,true,true,true,true,true,true,false] rfl rfl (by kernel_rfl) (by decide) (fun K hK => ?_)
 have cv0:=(zAh hF2q 0).trans rfl
 have cv1:=(zAh hF2q 1).trans rfl
 have fv0:=zAc hF2q 0
 have fv1:=zAc hF2q 1
 refine skip_ (w1:=?_) (by rfl) rfl ?_ ?_
 rotate_left
 ·go_simp
  rfl
 refine hK.out _ _ ?_
 clear hK K
 refine pu_ 9 20 ?_
 refine done_ (by kernel_rfl) ?_
 go_wp2_with fail
 clear cv0 cv1 fv0 fv1 Cl0 Cl1
 obtain ⟨w22,hw_⟩ : ∃ w22,w22 = (wFq.setCell ⟨sq,0,none⟩ (.int .i64 0)).setCell ⟨sq,1,none⟩ (.int .i64 0):=⟨_,rfl⟩
 rw [← hw_]
 have hb_ : Below w20.heap.size w20 w22:=by rw [hw_]; exact Below.setCell (Below.setCell (hF1q) (p:=⟨sq,_,none⟩) hF3q _) (p:=⟨sq,_,none⟩) hF3q _
 have n_z : Hid (w22.heap[sq]? = some (.cells #[.int .i64 0,.int .i64 0] 43 (0,0))):=Lib.hid (by rw [hw_]; exact blk_put (blk_put (hF2q) 0 _ rfl) 1 _ rfl)
 have n_l : Hid (w22.heap[w13.heap.size]? = some (.cells #[.int .i64 3,.int .i64 1] 43 (0,0))):=Lib.hid (zAe K_l.out hb_)
 have n_v : Hid (w22.heap[sp]? = some (.cells #[.int .i64 1,.int .i64 9] 43 (0,0))):=Lib.hid (zAe K_v.out hb_)
 clear K_l lt_l c_l_0 c_l_1 f_l_0 f_l_1 K_v lt_v c_v_0 c_v_1 f_v_0 f_v_1
 have K_l:=n_l
 clear n_l
 have lt_l : w13.heap.size < w22.heap.size:=blk_lt K_l.out
 have c_l_0:=bc_ K_l.out 0
 have f_l_0:=zAc K_l.out 0
 have c_l_1:=bc_ K_l.out 1
 have f_l_1:=zAc K_l.out 1
 have K_v:=n_v
 clear n_v
 have lt_v : sp < w22.heap.size:=blk_lt K_v.out
 have c_v_0:=bc_ K_v.out 0
 have f_v_0:=zAc K_v.out 0
 have c_v_1:=bc_ K_v.out 1
 have f_v_1:=zAc K_v.out 1
 have K_z:=n_z
 clear n_z
 have lt_z : sq < w22.heap.size:=blk_lt K_z.out
 have c_z_0:=bc_ K_z.out 0
 have f_z_0:=zAc K_z.out 0
 have c_z_1:=bc_ K_z.out 1
 have f_z_1:=zAc K_z.out 1
 have HH22:=Lib.hid (HH20.out.below hb_)
 have nB:=Lib.hid (zAd HB.out hb_)
 clear HB hb_ hw_
 have HB:=nB
 clear nB
 clear K_l lt_l c_l_0 c_l_1 f_l_0 f_l_1
 clear K_z lt_z c_z_0 c_z_1 f_z_0 f_z_1
 go_wp2_with fail
 refine (zBQ.calls 3 3 0 _ rfl).mono ?_
 rintro e w23 ⟨rfl,hb_⟩
 have n_v : Hid (w23.heap[sp]? = some (.cells #[.int .i64 1,.int .i64 9] 43 (0,0))):=Lib.hid (zAe (by (with_reducible repeat (first | apply zAo | apply zAl | apply zAj)); exact K_v.out) hb_)
 clear K_v lt_v c_v_0 c_v_1 f_v_0 f_v_1
 have K_v:=n_v
 clear n_v
 have lt_v : sp < w23.heap.size:=blk_lt K_v.out
 have c_v_0:=bc_ K_v.out 0
 have f_v_0:=zAc K_v.out 0
 have c_v_1:=bc_ K_v.out 1
 have f_v_1:=zAc K_v.out 1
 have n_HH22:=Lib.hid (HH22.out.below (by exact zAd (by (with_reducible repeat (first | apply zAa | apply zAf | apply zAi)); exact Below.refl _ _) hb_))
 clear HH22
 have HH22:=n_HH22
 clear n_HH22
 have nB:=Lib.hid (zAd (by (with_reducible repeat (first | apply zAa | apply zAf | apply zAi)); exact HB.out) hb_)
 clear HB hb_
 have HB:=nB
 clear nB
 go_wp2_with fail
 refine (zAz.calls 0 1 0 _ rfl).mono ?_
 rintro e w24 ⟨rfl,hb_⟩
 have n_v : Hid (w24.heap[sp]? = some (.cells #[.int .i64 1,.int .i64 9] 43 (0,0))):=Lib.hid (zAe (by (with_reducible repeat (first | apply zAo | apply zAl | apply zAj)); exact K_v.out) hb_)
 clear K_v lt_v c_v_0 c_v_1 f_v_0 f_v_1
 have K_v:=n_v
 clear n_v
 have lt_v : sp < w24.heap.size:=blk_lt K_v.out
 have c_v_0:=bc_ K_v.out 0
 have f_v_0:=zAc K_v.out 0
 have c_v_1:=bc_ K_v.out 1
 have f_v_1:=zAc K_v.out 1
 have n_HH22:=Lib.hid (HH22.out.below (by exact zAd (by (with_reducible repeat (first | apply zAa | apply zAf | apply zAi)); exact Below.refl _ _) hb_))
 clear HH22
 have HH22:=n_HH22
 clear n_HH22
 have nB:=Lib.hid (zAd (by (with_reducible repeat (first | apply zAa | apply zAf | apply zAi)); exact HB.out) hb_)
 clear HB hb_
 have HB:=nB
 clear nB
 go_wp2_with fail
 refine (sh_get3 HH22.out).mono ?_
 rintro e w25 ⟨rfl,hb_⟩
 have n_v : Hid (w25.heap[sp]? = some (.cells #[.int .i64 1,.int .i64 9] 43 (0,0))):=Lib.hid (zAe (by (with_reducible repeat (first | apply zAo | apply zAl | apply zAj)); exact K_v.out) hb_)
 clear K_v lt_v c_v_0 c_v_1 f_v_0 f_v_1
 have K_v:=n_v
 clear n_v
 have lt_v : sp < w25.heap.size:=blk_lt K_v.out
 have c_v_0:=bc_ K_v.out 0
 have f_v_0:=zAc K_v.out 0
 have c_v_1:=bc_ K_v.out 1
 have f_v_1:=zAc K_v.out 1
 have n_HH22:=Lib.hid (HH22.out.below (by exact zAd (by (with_reducible repeat (first | apply zAa | apply zAf | apply zAi)); exact Below.refl _ _) hb_))
 clear HH22
 have HH22:=n_HH22
 clear n_HH22
 have nB:=Lib.hid (zAd (by (with_reducible repeat (first | apply zAa | apply zAf | apply zAi)); exact HB.out) hb_)
 clear HB hb_
 have HB:=nB
 clear nB
 go_wp2_with fail
 have HBz:=Lib.hid (zAk (zAa HB.out (.cells #[.int .i64 0,.int .i64 0] 43)))
 refine start_ (n:=16) (S:=fun w' => w'.cell? ⟨sp,0,none⟩ = some (.int .i64 1) ∧ w'.cell? ⟨sp,1,none⟩ = some (.int .i64 9)) (ds:=[]) #[false,false,false,false,false,false,false,false,false,false,false,false,false,false,false,false] (by kernel_rfl) rfl rfl ⟨zAC (zBu c_v_0),zAC (zBu c_v_1)⟩ (fun hHeld => ?_)
 refine ta_ 0 115 hHeld ?_
 refine on_ 1 (some 116) (fun K hK => ?_)
 refine gs_ Tryz.func11 #[.int .i64 9] ?_
 with_reducible refine (zAz.calls 9 1 9 _ rfl).mono ?_
 rintro e w26 ⟨rfl,hb_⟩
 refine ⟨_,rfl,?_⟩
 have Q26:=Lib.hid hb_
 clear hb_
 refine hK.out _ _ ⟨zAb Q26.out hHeld.1,zAb Q26.out hHeld.2⟩ (fun hHeld => ?_)
 clear hK K
 refine no_ ?_
 refine pu_ 2 117 ?_
 refine pu_ 3 118 ?_
 refine pu_ 4 119 ?_
 refine pu_ 5 120 ?_
 refine pu_ 6 121 ?_
 refine pu_ 7 122 ?_
 refine pu_ 8 123 ?_
 refine pu_ 9 124 ?_
 refine pu_ 10 125 ?_
 refine pu_ 11 126 ?_
 refine pu_ 12 127 ?_
 refine pu_ 13 128 ?_
 refine pu_ 14 129 ?_
 refine pu_ 15 0 ?_
 refine done_ (by kernel_rfl) ?_
 go_wp2_with fail
 go_ret
 exact ⟨rfl,zAd HBz.out Q26.out⟩
end Go.Proofs.YtkhlfdcjgooogaaGreat.P
