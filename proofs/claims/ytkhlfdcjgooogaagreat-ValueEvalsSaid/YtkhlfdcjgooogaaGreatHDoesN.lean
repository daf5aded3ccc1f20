import Derived.Test.YtkhlfdcjgooogaaGreatHeapJ
import Derived.Test.YtkhlfdcjgooogaaGreatPf103
import Derived.Test.YtkhlfdcjgooogaaGreatWMore
set_option maxRecDepth 100000
set_option maxHeartbeats 16000000
set_option linter.unusedVariables false
set_option linter.unusedSimpArgs false
set_option linter.unusedSectionVars false
namespace Go.Proofs.YtkhlfdcjgooogaaGreat.P
open Go.RowKit Go.Proofs.YtkhlfdcjgooogaaGreatW.PrintWords Go.Proofs.YtkhlfdcjgooogaaGreatW.PrintLast Go.Proofs.YtkhlfdcjgooogaaGreatW.PrintMore
theorem HR.empty {W : World} {B : Nat} (h : W.heap[B]? = some (.cells #[.slice none 0 0] 40 (0,0))) : HR W B (fun k => k = B) [] :=
 ⟨rfl,.slice none 0 0,[],h,⟨by simp [rows],.inl ⟨rfl,rfl⟩⟩,fun k hk => by simp [Value.ownBlock] at hk,rfl,by simp,fun j hj => by simp at hj⟩
structure Two (w : World) (Bh Bm : Nat) (okh okm : Nat → Prop) (L M : List (List Int)) : Prop where
 hh : HA w Bh okh L
 hm : HR w Bm okm M
 dj : ∀ k,okh k → ¬ okm k
 lh : ∀ k,okh k → k < w.heap.size
 lm : ∀ k,okm k → k < w.heap.size
 ch : cellsOf L ≤ 262144
 cm : cellsOf M ≤ 262144
variable {w w' : World} {Bh Bm : Nat} {okh okm : Nat → Prop} {L M L' M' : List (List Int)}
theorem Two.below (h : Two w Bh Bm okh okm L M) (hb : Below w.heap.size w w') : Two w' Bh Bm okh okm L M :=
 ⟨h.hh.below hb,h.hm.below hb,h.dj,fun k hk => Nat.lt_of_lt_of_le (h.lh k hk) hb.size,fun k hk => Nat.lt_of_lt_of_le (h.lm k hk) hb.size,h.ch,h.cm⟩
theorem Two.newH (h : Two w Bh Bm okh okm L M) (hH : HA w' Bh (ext okh w w') L') (hc : Chg okh w w') (hl : cellsOf L' ≤ 262144) : Two w' Bh Bm (ext okh w w') okm L' M :=
 ⟨hH,h.hm.step (fun k hk ho => hc.block k hk (fun hh => h.dj k hh ho)),fun k hk ho => by rcases hk with hk | ⟨h1,_⟩; exact h.dj k hk ho; exact absurd (h.lm k ho) (by omega),fun k hk => by rcases hk with hk | ⟨_,h2⟩; exact Nat.lt_of_lt_of_le (h.lh k hk) hc.size; exact h2,
   fun k hk => Nat.lt_of_lt_of_le (h.lm k hk) hc.size,hl,h.cm⟩
theorem Two.setH (h : Two w Bh Bm okh okm L M) (hH : HA w' Bh okh L') (hc : Chg okh w w') (hl : cellsOf L' ≤ 262144) : Two w' Bh Bm okh okm L' M :=
 ⟨hH,h.hm.step (fun k hk ho => hc.block k hk (fun hh => h.dj k hh ho)),h.dj,fun k hk => Nat.lt_of_lt_of_le (h.lh k hk) hc.size,fun k hk => Nat.lt_of_lt_of_le (h.lm k hk) hc.size,hl,h.cm⟩
theorem Two.newM (h : Two w Bh Bm okh okm L M) (hM : HR w' Bm (ext okm w w') M') (hc : Chg okm w w') (hl : cellsOf M' ≤ 262144) : Two w' Bh Bm okh (ext okm w w') L M' :=
 ⟨h.hh.step (fun k hk ho => hc.block k hk (fun hm => h.dj k ho hm)),hM,fun k ho hk => by rcases hk with hk | ⟨h1,_⟩; exact h.dj k ho hk; exact absurd (h.lh k ho) (by omega),fun k hk => Nat.lt_of_lt_of_le (h.lh k hk) hc.size,
   fun k hk => by rcases hk with hk | ⟨_,h2⟩; exact Nat.lt_of_lt_of_le (h.lm k hk) hc.size; exact h2,h.ch,hl⟩
theorem Two.setM (h : Two w Bh Bm okh okm L M) (hM : HR w' Bm okm M') (hc : Chg okm w w') (hl : cellsOf M' ≤ 262144) : Two w' Bh Bm okh okm L M' :=
 ⟨h.hh.step (fun k hk ho => hc.block k hk (fun hm => h.dj k ho hm)),hM,h.dj,fun k hk => Nat.lt_of_lt_of_le (h.lh k hk) hc.size,fun k hk => Nat.lt_of_lt_of_le (h.lm k hk) hc.size,h.ch,hl⟩
structure Run (w0 : World) (okh0 okm0 : Nat → Prop) (w : World) (Bh Bm : Nat) (okh okm : Nat → Prop) (L M : List (List Int)) : Prop where
 two : Two w Bh Bm okh okm L M
 sh : ∀ k,okh k → okh0 k ∨ w0.heap.size ≤ k
 sm : ∀ k,okm k → okm0 k ∨ w0.heap.size ≤ k
 chg : Chg (fun k => okh0 k ∨ okm0 k) w0 w
def Keep (w w' : World) (okh okm okh' okm' : Nat → Prop) : Prop:=∀ k,k < w.heap.size → ¬ okh k → ¬ okm k → w'.heap[k]? = w.heap[k]? ∧ ¬ okh' k ∧ ¬ okm' k
structure Var (w : World) (okh okm : Nat → Prop) (g : Nat) (cs : Array Value) (t : Nat) : Prop where
 blk : w.heap[g]? = some (.cells cs t (0,0))
 nh : ¬ okh g
 nm : ¬ okm g
variable {w0 : World} {okh0 okm0 okh' okm' : Nat → Prop} {g t : Nat} {cs : Array Value}
theorem Var.keep (h : Var w okh okm g cs t) (k : Keep w w' okh okm okh' okm') : Var w' okh' okm' g cs t:=by
 obtain ⟨h1,h2,h3⟩:=k g (blk_lt h.blk) h.nh h.nm
 exact ⟨h1.trans h.blk,h2,h3⟩
theorem Var.below (h : Var w okh okm g cs t) (hb : Below w.heap.size w w') : Var w' okh okm g cs t:=⟨zAe h.blk hb,h.nh,h.nm⟩
theorem Var.fresh (T : Two w Bh Bm okh okm L M) (h : w'.heap[g]? = some (.cells cs t (0,0))) (hg : w.heap.size ≤ g) : Var w' okh okm g cs t :=
 ⟨h,fun hk => by have:=T.lh _ hk; omega,fun hk => by have:=T.lm _ hk; omega⟩
theorem Run.start (T : Two w Bh Bm okh okm L M) : Run w okh okm w Bh Bm okh okm L M:=⟨T,fun _ h => .inl h,fun _ h => .inl h,Chg.refl _ _⟩
theorem Run.below (R : Run w0 okh0 okm0 w Bh Bm okh okm L M) (hb : Below w.heap.size w w') : Run w0 okh0 okm0 w' Bh Bm okh okm L M:=⟨R.two.below hb,R.sh,R.sm,R.chg.then hb⟩
theorem Run.le (R : Run w0 okh0 okm0 w Bh Bm okh okm L M) : w0.heap.size ≤ w.heap.size:=R.chg.size
theorem ext_sub {ok ok0 : Nat → Prop} (hs : ∀ k,ok k → ok0 k ∨ w0.heap.size ≤ k) (hw : w0.heap.size ≤ w.heap.size) : ∀ k,ext ok w w' k → ok0 k ∨ w0.heap.size ≤ k:=by
 rintro k (h | ⟨h,_⟩)
 ·exact hs k h
 ·exact .inr (Nat.le_trans hw h)
theorem run_newH (R : Run w0 okh0 okm0 w Bh Bm okh okm L M) (n : Int) {x0 x1 x2 : Int} {x3 : Bool} (hx : newK L n = x0 ∧ newN L n = x1 ∧ newE L n = x2 ∧ newR L n = x3) :
  Calls Tryz.prog 12 #[.pointer (some ⟨Bh,0,none⟩),.int .i64 n] w fun e w' => e = .returned (.tuple #[.agg #[.int .i64 x0,.int .i64 x1],.int .i64 x2,.bool x3]) ∧ ∃ okh',Run w0 okh0 okm0 w' Bh Bm okh' okm (newL L n) M ∧ Keep w w' okh okm okh' okm:=by
 obtain ⟨rfl,rfl,rfl,rfl⟩:=hx
 refine (hnew n R.two.hh R.two.ch).mono fun e w' hh => ?_
 obtain ⟨he,hH,hc⟩:=hh
 exact ⟨he,ext okh w w',⟨R.two.newH hH hc (newL_le n R.two.ch),ext_sub R.sh R.le,R.sm,R.chg.trans hc (fun x hx h => (R.sh x h).elim .inl (fun h => absurd hx (by omega)))⟩,fun k hk h1 h2 => ⟨hc.block k hk h1,ext_not h1 hk,h2⟩⟩
theorem run_newM (R : Run w0 okh0 okm0 w Bh Bm okh okm L M) (n : Int) {x0 x1 x2 : Int} {x3 : Bool} (hx : newK M n = x0 ∧ newN M n = x1 ∧ newE M n = x2 ∧ newR M n = x3) :
  Calls Tryz.prog 17 #[.pointer (some ⟨Bm,0,none⟩),.int .i64 n] w fun e w' => e = .returned (.tuple #[.agg #[.int .i64 x0,.int .i64 x1],.int .i64 x2,.bool x3]) ∧ ∃ okm',Run w0 okh0 okm0 w' Bh Bm okh okm' L (newL M n) ∧ Keep w w' okh okm okh okm':=by
 obtain ⟨rfl,rfl,rfl,rfl⟩:=hx
 refine (mnew n R.two.hm R.two.cm).mono fun e w' hh => ?_
 obtain ⟨he,hH,hc⟩:=hh
 exact ⟨he,ext okm w w',⟨R.two.newM hH hc (newL_le n R.two.cm),R.sh,ext_sub R.sm R.le,R.chg.trans hc (fun x hx h => (R.sm x h).elim .inr (fun h => absurd hx (by omega)))⟩,fun k hk h1 h2 => ⟨hc.block k hk h2,h1,ext_not h2 hk⟩⟩
theorem run_setH (R : Run w0 okh0 okm0 w Bh Bm okh okm L M) (a n k i s x : Int) {r : Int} (hr : wrongF L a n k i = r) :
  Calls Tryz.prog 13 #[.pointer (some ⟨Bh,0,none⟩),.agg #[.int .i64 a,.int .i64 n],.agg #[.int .i64 k,.int .i64 i],.agg #[.int .i64 s,.int .i64 x]] w fun e w' => e = .returned (.int .i64 r) ∧ Run w0 okh0 okm0 w' Bh Bm okh okm (setL L a n k i s x) M ∧ Keep w w' okh okm okh okm:=by
 subst hr
 refine (hset a n k i s x R.two.hh R.two.ch).mono fun e w' hh => ?_
 obtain ⟨he,hH,hc⟩:=hh
 exact ⟨he,⟨R.two.setH hH hc (setL_le _ _ _ _ _ _ R.two.ch),R.sh,R.sm,R.chg.trans hc (fun x hx h => (R.sh x h).elim .inl (fun h => absurd hx (by omega)))⟩,fun k hk h1 h2 => ⟨hc.block k hk h1,h1,h2⟩⟩
theorem run_setM (R : Run w0 okh0 okm0 w Bh Bm okh okm L M) (a n k i s x : Int) {r : Int} (hr : wrongF M a n k i = r) :
  Calls Tryz.prog 19 #[.pointer (some ⟨Bm,0,none⟩),.agg #[.int .i64 a,.int .i64 n],.agg #[.int .i64 k,.int .i64 i],.agg #[.int .i64 s,.int .i64 x]] w fun e w' => e = .returned (.int .i64 r) ∧ Run w0 okh0 okm0 w' Bh Bm okh okm L (setL M a n k i s x) ∧ Keep w w' okh okm okh okm:=by
 subst hr
 refine (mset a n k i s x R.two.hm R.two.cm).mono fun e w' hh => ?_
 obtain ⟨he,hH,hc⟩:=hh
 exact ⟨he,⟨R.two.setM hH hc (setL_le _ _ _ _ _ _ R.two.cm),R.sh,R.sm,R.chg.trans hc (fun x hx h => (R.sm x h).elim .inr (fun h => absurd hx (by omega)))⟩,fun k hk h1 h2 => ⟨hc.block k hk h2,h1,h2⟩⟩
theorem run_getH (R : Run w0 okh0 okm0 w Bh Bm okh okm L M) (a n k i : Int) {x0 x1 r : Int} (hx : getK L a n k i = x0 ∧ getN L a n k i = x1 ∧ wrongF L a n k i = r) :
  Calls Tryz.prog 14 #[.pointer (some ⟨Bh,0,none⟩),.agg #[.int .i64 a,.int .i64 n],.agg #[.int .i64 k,.int .i64 i]] w fun e w' => e = .returned (.tuple #[.agg #[.int .i64 x0,.int .i64 x1],.int .i64 r]) ∧ Below w.heap.size w w':=by
 obtain ⟨rfl,rfl,rfl⟩:=hx
 exact hget a n k i R.two.hh R.two.ch
theorem zCN (R : Run w0 okh0 okm0 w Bh Bm okh okm L M) (a n k i : Int) {x0 x1 r : Int} (hx : getK M a n k i = x0 ∧ getN M a n k i = x1 ∧ wrongF M a n k i = r) :
  Calls Tryz.prog 18 #[.pointer (some ⟨Bm,0,none⟩),.agg #[.int .i64 a,.int .i64 n],.agg #[.int .i64 k,.int .i64 i]] w fun e w' => e = .returned (.tuple #[.agg #[.int .i64 x0,.int .i64 x1],.int .i64 r]) ∧ Below w.heap.size w w':=by
 obtain ⟨rfl,rfl,rfl⟩:=hx
 exact mget a n k i R.two.hm R.two.cm
def After (w : World) (Bh Bm : Nat) (okh okm : Nat → Prop) (L' M' : List (List Int)) (w' : World) : Prop:=∃ okh' okm',Run w okh okm w' Bh Bm okh' okm' L' M' ∧ Keep w w' okh okm okh' okm'
theorem Run.after (R : Run w okh okm w' Bh Bm okh' okm' L' M') : After w Bh Bm okh okm L' M' w':=by
 refine ⟨okh',okm',R,fun k hk h1 h2 => ⟨R.chg.block k hk (fun h => h.elim h1 h2),fun h => ?_,fun h => ?_⟩⟩
 ·rcases R.sh k h with h | h
  ·exact h1 h
  ·omega
 ·rcases R.sm k h with h | h
  ·exact h2 h
  ·omega
attribute [local go_sem] zAP zAQ max_two min_two zAK zAJ zAS zAR
def zAG.f (a0_0 : Int) (a0_1 : Int) : Option (Int × Int):=some (a0_0,a0_1)
theorem zAG.calls (a0_0 : Int) (a0_1 : Int) (r1 : Int) (r2 : Int) (w : World) (h : zAG.f a0_0 a0_1 = some (r1,r2)) :
  Calls Tryz.prog 7 #[.agg #[.int .i64 a0_0,.int .i64 a0_1]] w fun e w' => e = .returned (.agg #[.int .i64 r1,.int .i64 r2]) ∧ Below w.heap.size w w':=by
 have hu43:=Tryz.underlying43
 have hu49:=Tryz.underlying49
 have HB:=Aside0.mk (Below.refl w.heap.size w)
 have H : (some (a0_0,a0_1)) = some (r1,r2):=h
 clear h
 simp only [Option.some.injEq,Prod.mk.injEq] at H
 obtain ⟨rfl,rfl⟩:=H
 go_enter Tryz.func7,Tryz.ntmps7
 go_wp2_with (first | ((with_reducible refine zAZ (N:=1) rfl ?_); refine zBa ?hg (N:=1) ?hd (cs:=#[.int .i64 a0_0,.int .i64 a0_1]) (t:=43) ?hr ?_; (case hd => rfl); (case hg => rfl); (case hr => first | (go_simp; done) | (go_simp; rfl)); intro gb155 hg w2 hbox hb; have n0_:=Aside0.mk (zAd (by repeat (first | (with_reducible first | exact HB.out | apply zAa | apply zAf | apply zAi) | exact HB.out)) hb); have n1_:=Aside0.mk (hbox); have n2_:=Aside0.mk ((by rw [hg]; exact (zAy (by repeat (first | (with_reducible first | exact HB.out | apply zAa | apply zAf | apply zAi) | exact HB.out))) : w.heap.size ≤ gb155)); have n3_:=Aside0.mk ((by rw [hg]; exact (zAy (by repeat (first | (with_reducible first | exact HB.out | apply zAa | apply zAf | apply zAi) | exact HB.out))) : w.heap.size ≤ gb155)); clear HB; have HB:=n0_; have BK155:=n1_; have GW155:=n2_; have GE155:=n3_; clear n0_ n1_ n2_ n3_; clear hb hbox hg) | ((with_reducible refine zAZ (N:=2) rfl ?_); refine zBa ?hg (N:=2) ?hd (cs:=#[.int .i64 0,.int .i64 0]) (t:=49) ?hr ?_; (case hd => rfl); (case hg => rfl); (case hr => first | (go_simp; done) | (go_simp; rfl)); intro gb156 hg w3 hbox hb; have n0_:=Aside0.mk (zAe (g:=gb155) (o:=.cells #[.int .i64 a0_0,.int .i64 a0_1] 43 (0,0)) (by (with_reducible repeat (first | apply zAo | apply zAl | apply zAj)); exact BK155.out) hb); have n1_:=Aside0.mk (zAd (by repeat (first | (with_reducible first | exact HB.out | apply zAa | apply zAf | apply zAi | refine zAu ?_ GE155.out) | exact HB.out)) hb); have n2_:=Aside0.mk (hbox); have n3_:=Aside0.mk ((by rw [hg]; exact (zAy (by repeat (first | (with_reducible first | exact HB.out | apply zAa | apply zAf | apply zAi | refine zAu ?_ GE155.out) | exact HB.out))) : w.heap.size ≤ gb156)); have n4_:=Aside0.mk ((by rw [hg]; exact (zAy (by repeat (first | (with_reducible first | exact HB.out | apply zAa | apply zAf | apply zAi | refine zAu ?_ GE155.out) | exact HB.out))) : w.heap.size ≤ gb156)); have n5_:=Aside0.mk ((by rw [hg]; exact Nat.ne_of_lt (blk_lt (g:=gb155) (o:=.cells #[.int .i64 a0_0,.int .i64 a0_1] 43 (0,0)) (by (with_reducible repeat (first | apply zAo | apply zAl | apply zAj)); exact BK155.out)) : gb155 ≠ gb156)); have n6_:=Aside0.mk ((by rw [hg]; exact Nat.ne_of_gt (blk_lt (g:=gb155) (o:=.cells #[.int .i64 a0_0,.int .i64 a0_1] 43 (0,0)) (by (with_reducible repeat (first | apply zAo | apply zAl | apply zAj)); exact BK155.out)) : gb156 ≠ gb155)); clear BK155; clear HB; have BK155:=n0_; have HB:=n1_; have BK156:=n2_; have GW156:=n3_; have GE156:=n4_; have NB155_156:=n5_; have NB156_155:=n6_; clear n0_ n1_ n2_ n3_ n4_ n5_ n6_; clear hb hbox hg; have hnb4:=NB155_156.out; have hnc4:=NB156_155.out; have hcz5_0 : w3.cell? ⟨gb155,0,none⟩ = some (.int .i64 a0_0):=(zAh BK155.out 0).trans rfl; have hcz5_1 : w3.cell? ⟨gb155,1,none⟩ = some (.int .i64 a0_1):=(zAh BK155.out 1).trans rfl; have hfz5_0:=zAc BK155.out 0; have hfz5_1:=zAc BK155.out 1; have hcz6_0 : w3.cell? ⟨gb156,0,none⟩ = some (.int .i64 0):=(zAh BK156.out 0).trans rfl; have hcz6_1 : w3.cell? ⟨gb156,1,none⟩ = some (.int .i64 0):=(zAh BK156.out 1).trans rfl; have hfz6_0:=zAc BK156.out 0; have hfz6_1:=zAc BK156.out 1))
 refine bodyPost_ret (results_cell_row rfl _ _ gb156 49 #[.int .i64 a0_0,.int .i64 a0_1] (0,0) _ rfl (by (with_reducible repeat (first | apply zAo | apply zAl | apply zAj)); refine blk_put (cs:=#[.int .i64 a0_0,.int .i64 0]) ?_ 1 _ rfl; (with_reducible repeat (first | apply zAo | apply zAl | apply zAj)); refine blk_put (cs:=#[.int .i64 0,.int .i64 0]) ?_ 0 _ rfl; (with_reducible repeat (first | apply zAo | apply zAl | apply zAj)); exact BK156.out) Tryz.underlying49 rfl (by kernel_rfl)) rfl ?_
 exact ⟨by first | rfl | (simp [zAs,zAt] <;> rfl) | (simp [*,zAs,zAt] <;> rfl),by repeat (first | (with_reducible first | exact HB.out | apply zAa | apply zAf | apply zAi | refine zAu ?_ GE155.out | refine zAu ?_ GE156.out) | exact HB.out)⟩
def zAL.f (a0 : Int) (a1 : Int) : Option (Int):=if a0 < 0 then (if a1 = 0 then (none) else (some (Int.tmod (wrap64 (-(wrap64 (a0 + 1)))) a1))) else (if a1 = 0 then (none) else (some (Int.tmod a0 a1)))
theorem zAL.calls (a0 : Int) (a1 : Int) (r : Int) (w : World) (h : zAL.f a0 a1 = some r) :
  Calls Tryz.prog 16 #[.int .i64 a0,.int .i64 a1] w fun e w' => e = .returned (.int .i64 r) ∧ Drawn0 w w':=by
 have H : (if a0 < 0 then (if a1 = 0 then (none) else (some (Int.tmod (wrap64 (-(wrap64 (a0 + 1)))) a1))) else (if a1 = 0 then (none) else (some (Int.tmod a0 a1)))) = some r:=h
 clear h
 by_cases c3 : a0 < 0
 ·rw [if_pos c3] at H
  have c3b0 : decide (a0 < 0) = true:=decide_eq_true c3
  clear c3
  by_cases c4 : a1 = 0
  ·rw [if_pos c4] at H
   exact absurd H (by simp)
  ·rw [if_neg c4] at H
   have c4b0 : (a1 == 0) = false:=beq_eq_false_iff_ne.mpr c4
   have c4b1 : (a1 != 0) = true:=bne_iff_ne.mpr c4
   obtain rfl:=Option.some.inj H
   go_enter Tryz.func16,Tryz.ntmps16
   go_wp2
   go_ret
   exact ⟨by first | rfl | (simp; done) | (simp [*]; done),by repeat (first | exact Drawn0.refl _ | apply Drawn0.step)⟩
 ·rw [if_neg c3] at H
  have c3b0 : decide (a0 < 0) = false:=decide_eq_false c3
  clear c3
  by_cases c5 : a1 = 0
  ·rw [if_pos c5] at H
   exact absurd H (by simp)
  ·rw [if_neg c5] at H
   have c5b0 : (a1 == 0) = false:=beq_eq_false_iff_ne.mpr c5
   have c5b1 : (a1 != 0) = true:=bne_iff_ne.mpr c5
   obtain rfl:=Option.some.inj H
   go_enter Tryz.func16,Tryz.ntmps16
   go_wp2
   go_ret
   exact ⟨by first | rfl | (simp; done) | (simp [*]; done),by repeat (first | exact Drawn0.refl _ | apply Drawn0.step)⟩
theorem zCJ (a r : Int) (w : World) (h : zAL.f a 4 = some r) : Calls Tryz.prog 16 #[.int .i64 a,.int .i64 4] w fun e w' => e = .returned (.int .i64 r) ∧ Below w.heap.size w w' :=
 (zAL.calls a 4 r w h).mono fun _ _ hh => ⟨hh.1,hh.2.below⟩
theorem does_newC {w : World} {Bh Bm : Nat} {okh okm : Nat → Prop} {L M : List (List Int)} (o n a an i ii v vn : Int) {x0 x1 e : Int} {one two : Bool} (hx : newK L n = x0 ∧ newN L n = x1 ∧ newE L n = e ∧ newR L n = one) (hy : newK M n = x0 ∧ newN M n = x1 ∧ newE M n = e ∧ newR M n = two) (T : Two w Bh Bm okh okm L M) (hp : zAL.f o 4 = some 0) :
  Calls Tryz.prog 6 #[.pointer (some ⟨Bh,0,none⟩),.pointer (some ⟨Bm,0,none⟩),.agg #[.int .i64 o,.int .i64 n,.int .i64 a,.int .i64 an,.int .i64 i,.int .i64 ii,.int .i64 v,.int .i64 vn]] w fun e w' => e = .returned (.bool (one == two)) ∧ After w Bh Bm okh okm (newL L n) (newL M n) w':=by
 have HX:=Lib.hid hx
 have HY:=Lib.hid hy
 clear hx hy
 have HP:=Lib.hid hp
 have R:=Lib.hid (Run.start T)
 clear hp T
 go_enter Tryz.func6,Tryz.ntmps6
 go_wp2_with fail
 obtain ⟨a1,hw_⟩ : ∃ W_,W_ = w.alloc (.cells #[.int .i64 o,.int .i64 n,.int .i64 a,.int .i64 an,.int .i64 i,.int .i64 ii,.int .i64 v,.int .i64 vn] 45):=⟨_,rfl⟩
 rw [← hw_]
 have hb_ : Below w.heap.size w a1:=by rw [hw_]; exact zAa (Below.refl _ _) _
 have n_A : Hid (Var a1 okh okm w.heap.size #[.int .i64 o,.int .i64 n,.int .i64 a,.int .i64 an,.int .i64 i,.int .i64 ii,.int .i64 v,.int .i64 vn] 45):=Lib.hid (Var.fresh R.out.two (by rw [hw_]; exact heap_alloc_new _ _) (Nat.le_refl _))
 have V_A:=n_A
 clear n_A
 have lt_A : w.heap.size < a1.heap.size:=blk_lt V_A.out.blk
 have c_A_0:=bc_ V_A.out.blk 0
 have f_A_0:=zAc V_A.out.blk 0
 have c_A_1:=bc_ V_A.out.blk 1
 have f_A_1:=zAc V_A.out.blk 1
 have c_A_2:=bc_ V_A.out.blk 2
 have f_A_2:=zAc V_A.out.blk 2
 have c_A_3:=bc_ V_A.out.blk 3
 have f_A_3:=zAc V_A.out.blk 3
 have c_A_4:=bc_ V_A.out.blk 4
 have f_A_4:=zAc V_A.out.blk 4
 have c_A_5:=bc_ V_A.out.blk 5
 have f_A_5:=zAc V_A.out.blk 5
 have c_A_6:=bc_ V_A.out.blk 6
 have f_A_6:=zAc V_A.out.blk 6
 have c_A_7:=bc_ V_A.out.blk 7
 have f_A_7:=zAc V_A.out.blk 7
 have nR:=Lib.hid (R.out.below hb_)
 clear R
 have R:=nR
 clear nR
 clear hb_ hw_
 refine (zCJ o 0 _ HP.out).mono ?_
 rintro e_ w_1 ⟨rfl,hb_⟩
 have n_A : Hid (Var w_1 okh okm w.heap.size #[.int .i64 o,.int .i64 n,.int .i64 a,.int .i64 an,.int .i64 i,.int .i64 ii,.int .i64 v,.int .i64 vn] 45):=Lib.hid (V_A.out.below hb_)
 clear V_A lt_A c_A_0 f_A_0 c_A_1 f_A_1 c_A_2 f_A_2 c_A_3 f_A_3 c_A_4 f_A_4 c_A_5 f_A_5 c_A_6 f_A_6 c_A_7 f_A_7
 have V_A:=n_A
 clear n_A
 have lt_A : w.heap.size < w_1.heap.size:=blk_lt V_A.out.blk
 have c_A_0:=bc_ V_A.out.blk 0
 have f_A_0:=zAc V_A.out.blk 0
 have c_A_1:=bc_ V_A.out.blk 1
 have f_A_1:=zAc V_A.out.blk 1
 have c_A_2:=bc_ V_A.out.blk 2
 have f_A_2:=zAc V_A.out.blk 2
 have c_A_3:=bc_ V_A.out.blk 3
 have f_A_3:=zAc V_A.out.blk 3
 have c_A_4:=bc_ V_A.out.blk 4
 have f_A_4:=zAc V_A.out.blk 4
 have c_A_5:=bc_ V_A.out.blk 5
 have f_A_5:=zAc V_A.out.blk 5
 have c_A_6:=bc_ V_A.out.blk 6
 have f_A_6:=zAc V_A.out.blk 6
 have c_A_7:=bc_ V_A.out.blk 7
 have f_A_7:=zAc V_A.out.blk 7
 have nR:=Lib.hid (R.out.below hb_)
 clear R
 have R:=nR
 clear nR
 clear hb_
 go_wp2_with fail
 refine (run_newH R.out n HX.out).mono ?_
 rintro e_ w_2 ⟨rfl,okh_2,R_,K_⟩
 have n_A : Hid (Var w_2 okh_2 okm w.heap.size #[.int .i64 o,.int .i64 n,.int .i64 a,.int .i64 an,.int .i64 i,.int .i64 ii,.int .i64 v,.int .i64 vn] 45):=Lib.hid (V_A.out.keep K_)
 clear V_A lt_A c_A_0 f_A_0 c_A_1 f_A_1 c_A_2 f_A_2 c_A_3 f_A_3 c_A_4 f_A_4 c_A_5 f_A_5 c_A_6 f_A_6 c_A_7 f_A_7
 have V_A:=n_A
 clear n_A
 have lt_A : w.heap.size < w_2.heap.size:=blk_lt V_A.out.blk
 have c_A_0:=bc_ V_A.out.blk 0
 have f_A_0:=zAc V_A.out.blk 0
 have c_A_1:=bc_ V_A.out.blk 1
 have f_A_1:=zAc V_A.out.blk 1
 have c_A_2:=bc_ V_A.out.blk 2
 have f_A_2:=zAc V_A.out.blk 2
 have c_A_3:=bc_ V_A.out.blk 3
 have f_A_3:=zAc V_A.out.blk 3
 have c_A_4:=bc_ V_A.out.blk 4
 have f_A_4:=zAc V_A.out.blk 4
 have c_A_5:=bc_ V_A.out.blk 5
 have f_A_5:=zAc V_A.out.blk 5
 have c_A_6:=bc_ V_A.out.blk 6
 have f_A_6:=zAc V_A.out.blk 6
 have c_A_7:=bc_ V_A.out.blk 7
 have f_A_7:=zAc V_A.out.blk 7
 clear R
 have R:=Lib.hid R_
 clear R_ K_
 go_wp2_with fail
 obtain ⟨a2,hw_⟩ : ∃ W_,W_ = w_2.alloc (.cells #[.int .i64 x0,.int .i64 x1] 43):=⟨_,rfl⟩
 rw [← hw_]
 have hb_ : Below w_2.heap.size w_2 a2:=by rw [hw_]; exact zAa (Below.refl _ _) _
 have n_A : Hid (Var a2 okh_2 okm w.heap.size #[.int .i64 o,.int .i64 n,.int .i64 a,.int .i64 an,.int .i64 i,.int .i64 ii,.int .i64 v,.int .i64 vn] 45):=Lib.hid (V_A.out.below hb_)
 have n_x : Hid (Var a2 okh_2 okm w_2.heap.size #[.int .i64 x0,.int .i64 x1] 43):=Lib.hid (Var.fresh R.out.two (by rw [hw_]; exact heap_alloc_new _ _) (Nat.le_refl _))
 clear V_A lt_A c_A_0 f_A_0 c_A_1 f_A_1 c_A_2 f_A_2 c_A_3 f_A_3 c_A_4 f_A_4 c_A_5 f_A_5 c_A_6 f_A_6 c_A_7 f_A_7
 have V_A:=n_A
 clear n_A
 have lt_A : w.heap.size < a2.heap.size:=blk_lt V_A.out.blk
 have c_A_0:=bc_ V_A.out.blk 0
 have f_A_0:=zAc V_A.out.blk 0
 have c_A_1:=bc_ V_A.out.blk 1
 have f_A_1:=zAc V_A.out.blk 1
 have c_A_2:=bc_ V_A.out.blk 2
 have f_A_2:=zAc V_A.out.blk 2
 have c_A_3:=bc_ V_A.out.blk 3
 have f_A_3:=zAc V_A.out.blk 3
 have c_A_4:=bc_ V_A.out.blk 4
 have f_A_4:=zAc V_A.out.blk 4
 have c_A_5:=bc_ V_A.out.blk 5
 have f_A_5:=zAc V_A.out.blk 5
 have c_A_6:=bc_ V_A.out.blk 6
 have f_A_6:=zAc V_A.out.blk 6
 have c_A_7:=bc_ V_A.out.blk 7
 have f_A_7:=zAc V_A.out.blk 7
 have V_x:=n_x
 clear n_x
 have lt_x : w_2.heap.size < a2.heap.size:=blk_lt V_x.out.blk
 have c_x_0:=bc_ V_x.out.blk 0
 have f_x_0:=zAc V_x.out.blk 0
 have c_x_1:=bc_ V_x.out.blk 1
 have f_x_1:=zAc V_x.out.blk 1
 have nR:=Lib.hid (R.out.below hb_)
 clear R
 have R:=nR
 clear nR
 clear hb_ hw_
 refine (run_newM R.out n HY.out).mono ?_
 rintro e_ w_3 ⟨rfl,okm_3,R_,K_⟩
 have n_A : Hid (Var w_3 okh_2 okm_3 w.heap.size #[.int .i64 o,.int .i64 n,.int .i64 a,.int .i64 an,.int .i64 i,.int .i64 ii,.int .i64 v,.int .i64 vn] 45):=Lib.hid (V_A.out.keep K_)
 have n_x : Hid (Var w_3 okh_2 okm_3 w_2.heap.size #[.int .i64 x0,.int .i64 x1] 43):=Lib.hid (V_x.out.keep K_)
 clear V_A lt_A c_A_0 f_A_0 c_A_1 f_A_1 c_A_2 f_A_2 c_A_3 f_A_3 c_A_4 f_A_4 c_A_5 f_A_5 c_A_6 f_A_6 c_A_7 f_A_7 V_x lt_x c_x_0 f_x_0 c_x_1 f_x_1
 have V_A:=n_A
 clear n_A
 have lt_A : w.heap.size < w_3.heap.size:=blk_lt V_A.out.blk
 have c_A_0:=bc_ V_A.out.blk 0
 have f_A_0:=zAc V_A.out.blk 0
 have c_A_1:=bc_ V_A.out.blk 1
 have f_A_1:=zAc V_A.out.blk 1
 have c_A_2:=bc_ V_A.out.blk 2
 have f_A_2:=zAc V_A.out.blk 2
 have c_A_3:=bc_ V_A.out.blk 3
 have f_A_3:=zAc V_A.out.blk 3
 have c_A_4:=bc_ V_A.out.blk 4
 have f_A_4:=zAc V_A.out.blk 4
 have c_A_5:=bc_ V_A.out.blk 5
 have f_A_5:=zAc V_A.out.blk 5
 have c_A_6:=bc_ V_A.out.blk 6
 have f_A_6:=zAc V_A.out.blk 6
 have c_A_7:=bc_ V_A.out.blk 7
 have f_A_7:=zAc V_A.out.blk 7
 have V_x:=n_x
 clear n_x
 have lt_x : w_2.heap.size < w_3.heap.size:=blk_lt V_x.out.blk
 have c_x_0:=bc_ V_x.out.blk 0
 have f_x_0:=zAc V_x.out.blk 0
 have c_x_1:=bc_ V_x.out.blk 1
 have f_x_1:=zAc V_x.out.blk 1
 clear R
 have R:=Lib.hid R_
 clear R_ K_
 clear V_A lt_A c_A_0 f_A_0 c_A_1 f_A_1 c_A_2 f_A_2 c_A_3 f_A_3 c_A_4 f_A_4 c_A_5 f_A_5 c_A_6 f_A_6 c_A_7 f_A_7
 go_wp2_with fail
 obtain ⟨a3,hw_⟩ : ∃ W_,W_ = w_3.alloc (.cells #[.int .i64 x0,.int .i64 x1] 49):=⟨_,rfl⟩
 rw [← hw_]
 have hb_ : Below w_3.heap.size w_3 a3:=by rw [hw_]; exact zAa (Below.refl _ _) _
 have n_x : Hid (Var a3 okh_2 okm_3 w_2.heap.size #[.int .i64 x0,.int .i64 x1] 43):=Lib.hid (V_x.out.below hb_)
 have n_y : Hid (Var a3 okh_2 okm_3 w_3.heap.size #[.int .i64 x0,.int .i64 x1] 49):=Lib.hid (Var.fresh R.out.two (by rw [hw_]; exact heap_alloc_new _ _) (Nat.le_refl _))
 clear V_x lt_x c_x_0 f_x_0 c_x_1 f_x_1
 have V_x:=n_x
 clear n_x
 have lt_x : w_2.heap.size < a3.heap.size:=blk_lt V_x.out.blk
 have c_x_0:=bc_ V_x.out.blk 0
 have f_x_0:=zAc V_x.out.blk 0
 have c_x_1:=bc_ V_x.out.blk 1
 have f_x_1:=zAc V_x.out.blk 1
 have V_y:=n_y
 clear n_y
 have lt_y : w_3.heap.size < a3.heap.size:=blk_lt V_y.out.blk
 have c_y_0:=bc_ V_y.out.blk 0
 have f_y_0:=zAc V_y.out.blk 0
 have c_y_1:=bc_ V_y.out.blk 1
 have f_y_1:=zAc V_y.out.blk 1
 have nR:=Lib.hid (R.out.below hb_)
 clear R
 have R:=nR
 clear nR
 clear hb_ hw_
 refine start_ (n:=15) (S:=fun w' => w'.cell? ⟨w_2.heap.size,0,none⟩ = some (.int .i64 x0) ∧ w'.cell? ⟨w_2.heap.size,1,none⟩ = some (.int .i64 x1) ∧ w'.cell? ⟨w_3.heap.size,0,none⟩ = some (.int .i64 x0) ∧ w'.cell? ⟨w_3.heap.size,1,none⟩ = some (.int .i64 x1)) (ds:=[]) #[false,false,false,false,false,false,false,false,false,false,false,false,false,false,false] (by kernel_rfl) rfl rfl ⟨zAC c_x_0,zAC c_x_1,zAC c_y_0,zAC c_y_1⟩ (fun hHeld => ?_)
 refine ta_ 0 38 hHeld ?_
 refine ta_ 2 40 hHeld ?_
 refine on_ 1 (some 39) (fun K hK => ?_)
 refine gs_ Tryz.func7 #[.agg #[.int .i64 x0,.int .i64 x1]] ?_
 with_reducible refine (zAG.calls x0 x1 x0 x1 _ rfl).mono ?_
 rintro e_ z1 ⟨rfl,hb_⟩
 refine ⟨_,rfl,?_⟩
 have Q_z1:=Lib.hid (zAd (zAk (Below.refl a3.heap.size a3)) hb_)
 have P_z1:=Lib.hid hb_
 clear hb_
 refine hK.out _ _ ⟨zAb P_z1.out hHeld.1,zAb P_z1.out hHeld.2.1,zAb P_z1.out hHeld.2.2.1,zAb P_z1.out hHeld.2.2.2⟩ (fun hHeld => ?_)
 clear hK K
 refine no_ ?_
 refine pu_ 3 41 ?_
 refine pu_ 4 42 ?_
 refine pu_ 5 43 ?_
 refine pu_ 6 44 ?_
 refine pu_ 7 45 ?_
 refine pu_ 8 46 ?_
 refine pu_ 9 47 ?_
 refine pu_ 10 48 ?_
 refine pu_ 11 49 ?_
 refine pu_ 12 50 ?_
 refine pu_ 13 51 ?_
 refine pu_ 14 6 ?_
 refine done_ (by kernel_rfl) ?_
 have n_x : Hid (Var z1 okh_2 okm_3 w_2.heap.size #[.int .i64 x0,.int .i64 x1] 43):=Lib.hid (V_x.out.below Q_z1.out)
 have n_y : Hid (Var z1 okh_2 okm_3 w_3.heap.size #[.int .i64 x0,.int .i64 x1] 49):=Lib.hid (V_y.out.below Q_z1.out)
 clear V_x lt_x c_x_0 f_x_0 c_x_1 f_x_1 V_y lt_y c_y_0 f_y_0 c_y_1 f_y_1
 have V_x:=n_x
 clear n_x
 have lt_x : w_2.heap.size < z1.heap.size:=blk_lt V_x.out.blk
 have c_x_0:=bc_ V_x.out.blk 0
 have f_x_0:=zAc V_x.out.blk 0
 have c_x_1:=bc_ V_x.out.blk 1
 have f_x_1:=zAc V_x.out.blk 1
 have V_y:=n_y
 clear n_y
 have lt_y : w_3.heap.size < z1.heap.size:=blk_lt V_y.out.blk
 have c_y_0:=bc_ V_y.out.blk 0
 have f_y_0:=zAc V_y.out.blk 0
 have c_y_1:=bc_ V_y.out.blk 1
 have f_y_1:=zAc V_y.out.blk 1
 have nR:=Lib.hid (R.out.below Q_z1.out)
 clear R
 have R:=nR
 clear nR
 go_wp2_with fail
 go_ret
 exact ⟨rfl,R.out.after⟩
end Go.Proofs.YtkhlfdcjgooogaaGreat.P
