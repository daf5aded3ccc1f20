import Derived.Test.YtkhlfdcjgooogaaGreatWMore
import Derived.Test.YtkhlfdcjgooogaaGreatHeapF
import Derived.LoopTactic
import Derived.Test.YtkhlfdcjgooogaaGreatPf103
set_option maxRecDepth 100000
set_option maxHeartbeats 16000000
set_option linter.unusedVariables false
set_option linter.unusedSimpArgs false
set_option linter.unusedSectionVars false
namespace Go.Proofs.YtkhlfdcjgooogaaGreat.P
open Go.RowKit Go.Proofs.YtkhlfdcjgooogaaGreatW.PrintWords Go.Proofs.YtkhlfdcjgooogaaGreatW.PrintLast Go.Proofs.YtkhlfdcjgooogaaGreatW.PrintMore
theorem ret_int {k : IntKind} {a b : Int} (h : a = b) : Ending.returned (.int k a) = .returned (.int k b):=by rw [h]
theorem zAU : ∀ L : List (List Int),0 ≤ cellsOf L
 | [] => by simp [cellsOf]
 | l :: L => by have:=zAU L; simp [cellsOf]; omega
theorem zCn : ∀ (L M : List (List Int)),cellsOf (L ++ M) = cellsOf L + cellsOf M
 | [],M => by simp [cellsOf]
 | l :: L,M => by simp [cellsOf,zCn L M]; omega
theorem zBn : ∀ L : List (List Int),(L.length : Int) ≤ cellsOf L
 | [] => by simp [cellsOf]
 | l :: L => by have:=zBn L; simp [cellsOf]; omega
theorem zCH (L : List (List Int)) (k : Nat) : ((L.getD k []).length : Int) ≤ cellsOf L:=by
 by_cases h : k < L.length
 ·have e : L = L.take k ++ L[k] :: L.drop (k + 1):=by simp
  have e2:=congrArg cellsOf e
  rw [zCn] at e2
  have h1:=zAU (L.take k)
  have h2:=zAU (L.drop (k + 1))
  simp only [cellsOf] at e2
  rw [getD_lt _ _ h]
  omega
 ·have e : L.getD k [] = []:=by simp [List.getD_eq_getElem?_getD,List.getElem?_eq_none (Nat.le_of_not_lt h)]
  have:=zAU L
  rw [e]
  simpa
theorem cellsOf_take (L : List (List Int)) (k : Nat) (h : k < L.length) : cellsOf (L.take (k + 1)) = cellsOf (L.take k) + 1 + (L.getD k []).length:=by
 rw [List.take_succ_eq_append_getElem h,zCk,getD_lt _ _ h]
 omega
theorem cellsOf_take_le (L : List (List Int)) (k : Nat) : cellsOf (L.take k) ≤ cellsOf L:=by
 have e:=congrArg cellsOf (List.take_append_drop k L)
 rw [zCn] at e
 have:=zAU (L.drop k)
 omega
theorem rcells {B g c : Nat} {L : List (List Int)} {ds qs : Nat → Nat} {w : World} (hB : w.heap[B]? = some (.cells #[.slice (some ⟨g,0,none⟩) L.length c] 40 (0,0))) (hr : ∀ j,j < L.length → w.cell? ⟨g,j,none⟩ = some (.slice (some ⟨ds j,0,none⟩) (L.getD j []).length (qs j))) (hc : cellsOf L ≤ 262144) :
  Calls Tryz.prog 30 #[.pointer (some ⟨B,0,none⟩)] w fun e w' => e = .returned (.int .i64 (cellsOf L)) ∧ w' = w:=by
 have cB:=(zAh hB 0).trans rfl
 have hl:=zBn L
 have HR:=Lib.hid hr
 clear hB hr
 go_enter Tryz.func30,Tryz.ntmps30
 go_wp2_with fail
 go_loop [3,4] (fun s i => ∃ k : Nat,k ≤ L.length ∧ i = .int .i64 k ∧ s = .int .i64 (cellsOf (L.take k))) (fun _ i => L.length - (intOf i).toNat)
 case atStart => exact ⟨0,Nat.zero_le _,rfl,rfl⟩
 case round =>
  obtain ⟨k,hk,rfl,rfl⟩:=hrel
  have h1:=cellsOf_take_le L k
  have h0:=zAU (L.take k)
  have h2:=zCH L k
  by_cases hlt : k < L.length
  ·obtain ⟨m,hm⟩ : ∃ m,m = (L.getD k []).length:=⟨_,rfl⟩
   obtain ⟨d,hd⟩ : ∃ d,d = ds k:=⟨_,rfl⟩
   obtain ⟨q,hq⟩ : ∃ q,q = qs k:=⟨_,rfl⟩
   have hcell:=HR.out k hlt
   have ht:=cellsOf_take L k hlt
   rw [← hm] at hcell ht h2
   rw [← hd,← hq] at hcell
   have HT:=Lib.hid ht
   clear ht hm hd hq
   go_wp2_with fail
   go_round
   case rel => exact ⟨k + 1,by omega,by go_num,by rw [HT.out]⟩
   case measure => simp [intOf]; omega
  ·have e : L.take k = L:=List.take_of_length_le (by omega)
   have E:=Lib.hid e
   clear e
   go_wp2_with fail
   go_ret
   exact ⟨ret_int (by rw [E.out]),rfl⟩
theorem rcells0 {B c : Nat} {A : Option Addr} {w : World} (hB : w.heap[B]? = some (.cells #[.slice A 0 c] 40 (0,0))) :
  Calls Tryz.prog 30 #[.pointer (some ⟨B,0,none⟩)] w fun e w' => e = .returned (.int .i64 0) ∧ w' = w:=by
 have cB:=(zAh hB 0).trans rfl
 clear hB
 go_enter Tryz.func30,Tryz.ntmps30
 go_wp2_with fail
 go_loop [3,4] (fun s i => i = .int .i64 0 ∧ s = .int .i64 0) (fun _ i => 0)
 case atStart => exact ⟨rfl,rfl⟩
 case round =>
  obtain ⟨rfl,rfl⟩:=hrel
  go_wp2_with fail
  go_ret
  exact ⟨rfl,rfl⟩
theorem rcells_blk {B : Nat} {ok : Nat → Prop} {v : Value} {gs : List (Nat × Nat)} {L : List (List Int)} {w : World} (hB : w.heap[B]? = some (.cells #[v] 40 (0,0))) (hA : Arrs w ok v gs L) (hc : cellsOf L ≤ 262144) :
  Calls Tryz.prog 30 #[.pointer (some ⟨B,0,none⟩)] w fun e w' => e = .returned (.int .i64 (cellsOf L)) ∧ w'.heap.size = w.heap.size ∧ w'.heap[B]? = some (.cells #[v] 40 (0,0)) ∧ Chg (· = B) w w':=by
 have key : Calls Tryz.prog 30 #[.pointer (some ⟨B,0,none⟩)] w fun e w' => e = .returned (.int .i64 (cellsOf L)) ∧ w' = w:=by
  obtain ⟨A,c,rfl,hr⟩:=hA.get
  rcases hr with h0 | ⟨g,rfl,hg,hr⟩
  ·have e : L = []:=List.length_eq_zero_iff.1 h0
   subst e
   exact rcells0 hB
  ·refine rcells (ds:=fun j => (gs.getD j (0,0)).1) (qs:=fun j => (gs.getD j (0,0)).2) hB (fun j hj => ?_) hc
   have hj' : j < gs.length:=hA.len ▸ hj
   rw [getD_lt _ _ hj,getD_lt _ _ hj']
   exact hr j hj' hj
 refine key.mono fun e w' h => ?_
 obtain ⟨he,hw⟩:=h
 subst hw
 exact ⟨he,rfl,hB,Chg.refl _ _⟩
theorem rnew_size (B : Nat) (n : Int) (w : World) (h : n < 0 ∨ 65536 < n) :
  Calls Tryz.prog 17 #[.pointer (some ⟨B,0,none⟩),.int .i64 n] w fun e w' => e = .returned (.tuple #[.agg #[.int .i64 0,.int .i64 0],.int .i64 4,.bool true]) ∧ Below w.heap.size w w':=by
 by_cases h0 : n < 0
 ·have d0 : decide (n < 0) = true:=by simp [h0]
  clear h h0
  go_enter Tryz.func17,Tryz.ntmps17
  go_wp2_with fail
  refine bodyPost_ret (zAr rfl _ _ w.heap.size 49 #[.int .i64 0,.int .i64 0] (0,0) _ rfl (heap_alloc_new w _) Tryz.underlying49 rfl (by kernel_rfl)) rfl ?_
  exact ⟨rfl,zAa (Below.refl _ _) _⟩
 ·have d0 : decide (n < 0) = false:=by simp; omega
  have d1 : decide (65536 < n) = true:=by simp; omega
  clear h h0
  go_enter Tryz.func17,Tryz.ntmps17
  go_wp2_with fail
  refine bodyPost_ret (zAr rfl _ _ w.heap.size 49 #[.int .i64 0,.int .i64 0] (0,0) _ rfl (heap_alloc_new w _) Tryz.underlying49 rfl (by kernel_rfl)) rfl ?_
  exact ⟨rfl,zAa (Below.refl _ _) _⟩
theorem rnew_full {B : Nat} {ok : Nat → Prop} {v : Value} {gs : List (Nat × Nat)} {L : List (List Int)} (n : Int) {w : World} (hB : w.heap[B]? = some (.cells #[v] 40 (0,0))) (hA : Arrs w ok v gs L) (h0 : 0 ≤ n) (h1 : n ≤ 65536) (hx1 : cellsOf L ≤ 262144) (hr : 262144 < cellsOf L + n + 1) :
  Calls Tryz.prog 17 #[.pointer (some ⟨B,0,none⟩),.int .i64 n] w fun e w' => e = .returned (.tuple #[.agg #[.int .i64 0,.int .i64 0],.int .i64 0,.bool false]) ∧ w'.heap[B]? = some (.cells #[v] 40 (0,0)) ∧ Chg (· = B) w w':=by
 have d0 : decide (n < 0) = false:=by simp; omega
 have d1 : decide (65536 < n) = false:=by simp; omega
 have d2 : decide (262144 < cellsOf L + n + 1) = true:=by simp; omega
 have hl0:=zAU L
 have hlt:=blk_lt hB
 have hB1:=Lib.hid (zAj hB (.cells #[.int .i64 0,.int .i64 0] 49))
 have hR1:=Lib.hid (heap_alloc_new w (.cells #[.int .i64 0,.int .i64 0] 49))
 have hne : w.heap.size ≠ B:=by omega
 have hA1:=hA.step (W':=w.alloc (.cells #[.int .i64 0,.int .i64 0] 49)) (fun k hk _ => (zAa (Below.refl _ _) _).block k hk)
 clear hB hA
 go_enter Tryz.func17,Tryz.ntmps17
 go_wp2_with (go_at_call 30; refine (rcells_blk hB1.out hA1 hx1).mono ?_; rintro e w2 ⟨rfl,hz,hB2,hc⟩; have hsz:=Lib.hid hz; have hR3:=Lib.hid ((hc.block _ (by simp) hne).trans hR1.out); have HB3:=Lib.hid hB2; have HC:=Lib.hid hc; clear hz hB2 hc; have c0 : w2.cell? ⟨w.heap.size,0,none⟩ = some (.int .i64 0):=(zAh hR3.out 0).trans rfl; have c1 : w2.cell? ⟨w.heap.size,1,none⟩ = some (.int .i64 0):=(zAh hR3.out 1).trans rfl; have f0:=zAc hR3.out 0; have f1:=zAc hR3.out 1)
 refine bodyPost_ret (zAr rfl _ _ w.heap.size 49 #[.int .i64 0,.int .i64 0] (0,0) _ rfl (blk_put (blk_put hR3.out 0 _ rfl) 1 _ rfl) Tryz.underlying49 rfl (by kernel_rfl)) rfl ?_
 refine ⟨rfl,?_,?_⟩
 ·exact (Below.heap_setCell _ _ _ B (Ne.symm hne)).trans ((Below.heap_setCell _ _ _ B (Ne.symm hne)).trans HB3.out)
 ·exact ((((Chg.of (zAa (Below.refl _ _) _)).trans HC.out (fun _ _ h => h))).set _ _ (fun h => absurd h (Nat.lt_irrefl _))).set _ _ (fun h => absurd h (Nat.lt_irrefl _))
theorem rnew_is (B : Nat) (v : Value) (gs : List (Nat × Nat)) (ok : Nat → Prop) (L : List (List Int)) (n : Int) (w : World) (hB : w.heap[B]? = some (.cells #[v] 40 (0,0))) (hA : Arrs w ok v gs L) (hok : ok B) (h0 : 0 ≤ n) (h1 : n ≤ 65536) (hr : cellsOf L + n + 1 ≤ 262144) :
  Calls Tryz.prog 17 #[.pointer (some ⟨B,0,none⟩),.int .i64 n] w fun e w' => e = .returned (.tuple #[.agg #[.int .i64 3,.int .i64 (L.length + 1)],.int .i64 0,.bool true]) ∧ HR w' B (fun k => ok k ∨ (w.heap.size ≤ k ∧ k < w'.heap.size)) (L ++ [List.replicate n.toNat 0]) ∧ Chg ok w w':=by
 have d0 : decide (n < 0) = false:=by simp; omega
 have d1 : decide (65536 < n) = false:=by simp; omega
 have d2 : decide (262144 < cellsOf L + n + 1) = false:=by simp; omega
 have hlt:=blk_lt hB
 have hB1:=Lib.hid (zAj hB (.cells #[.int .i64 0,.int .i64 0] 49))
 have hR1:=Lib.hid (heap_alloc_new w (.cells #[.int .i64 0,.int .i64 0] 49))
 have hne : w.heap.size ≠ B:=by omega
 have hmk:=print_make_int (P:=Tryz.prog) 64 3 (.int .i64 0) 8 Tryz.underlying64 (by kernel_rfl) rfl (by decide) n h0 (by omega)
 have hl:=zBn L
 have hl0:=zAU L
 have hA1:=hA.step (W':=w.alloc (.cells #[.int .i64 0,.int .i64 0] 49)) (fun k hk _ => (zAa (Below.refl _ _) _).block k hk)
 clear hB hA
 go_enter Tryz.func17,Tryz.ntmps17
 go_wp2_with (go_at_call 30; refine (rcells_blk hB1.out hA1 (by omega)).mono ?_; rintro e w1 ⟨rfl,hz,hB2,hc⟩; have hsz:=Lib.hid hz; have hR2:=Lib.hid ((hc.block _ (by simp) hne).trans hR1.out); have HB2:=Lib.hid hB2; have HC:=Lib.hid hc; clear hz hB2 hc)
 have hA2:=Lib.hid (hA1.step' (W':=w1) (fun k hk ho => HC.out.block k hk (fun e => by have h:=hA1.ne hB1.out (by decide) (by decide); rcases ho with ho | ho; exact h.1 (e ▸ ho); exact h.2 (e ▸ ho))))
 have k0:=bc_ HB2.out 0
 have hltB:=blk_lt HB2.out
 have hsM : Hid ((w1.drew.alloc (.cells (madeCells #[.int .i64 0] n.toNat) 3)).heap.size = w1.heap.size + 1):=Lib.hid (by simp)
 clear d0 d1 d2
 refine start_ (n:=12) (S:=fun w' => w'.cell? ⟨B,0,none⟩ = some v) (ds:=[8,11]) #[false,false,false,false,false,false,false,false,false,false,false,false] (by kernel_rfl) rfl rfl (k0) (fun hHeld => ?_)
 refine pu_ 0 21 ?_
 refine pu_ 1 22 ?_
 refine pu_ 2 23 ?_
 refine pu_ 3 24 ?_
 refine pu_ 5 26 ?_
 refine ta_ 4 25 hHeld ?_
 refine on_ 6 (some 27) (fun K hK => ?_)
 refine value_ (w1:=?_) (v:=?_) (by rfl) rfl ?_ ?_
 rotate_left 2
 ·go_simp
  constructor
  ·rfl
  ·rfl
 refine hK.out _ _ (zBu hHeld) (fun hHeld => ?_)
 clear hK K
 refine no_ ?_
 refine on_ 7 (some 28) (fun K hK => ?_)
 refine value_ (w1:=?_) (v:=?_) (by rfl) rfl ?_ ?_
 rotate_left 2
 ·go_simp
  constructor
  ·rfl
  ·rfl
 refine hK.out _ _ (zBu hHeld) (fun hHeld => ?_)
 clear hK K
 refine no_ ?_
 refine last_ (i:=8) (N:=some 29) #[true,true,true,true,true,true,true,true,true,false,false,false] rfl rfl (by kernel_rfl) (by decide) (fun K hK => ?_)
 refine zBp (w0:=w1.drew.alloc (.cells (madeCells #[.int .i64 0] n.toNat) 3)) 0 (by rfl) (.tmp 25) (.tmp 28) 30 64 (.slice none 0 0) 1 24 (by rfl) Tryz.underlying30 (by kernel_rfl) rfl (by decide) (by decide) v L.length (rows gs L) [.slice (some ⟨w1.heap.size,0,none⟩) n.toNat n.toNat] (by rfl) (by rw [hsM.out]; rfl) rfl (by simp [Value.oneCell']) (hA2.out.own.drew.alloc _) (Below.refl _ _) (Nat.zero_le _) (by omega) ?_
 intro v1 w3 hown hbel hgr hat
 obtain ⟨A1,cp1,rfl⟩:=zDd hown
 have HH:=Lib.hid (And.intro hown (And.intro hbel (And.intro hgr hat)))
 clear hown hbel hgr hat
 refine hK.out _ _ ?_
 clear hK K
 refine no_ ?_
 refine pu_ 9 30 ?_
 refine pu_ 10 31 ?_
 refine last_ (i:=11) (N:=none) #[true,true,true,true,true,true,true,true,true,true,true,true] rfl rfl (by kernel_rfl) (by decide) (fun K hK => ?_)
 have hB5 : w3.heap[B]? = some (.cells #[v] 40 (0,0)):=(HH.out.2.2.1.block B (by simp; omega) (zBW hA2.out.own HB2.out (by decide))).trans ((zAa (zAk (Below.refl _ _)) _).block B (by omega) |>.trans HB2.out)
 have cB:=zAh hB5 0
 have fB:=zAc hB5 0
 refine skip_ (w1:=?_) (by rfl) rfl ?_ ?_
 rotate_left
 ·go_simp
  rfl
 refine hK.out _ _ ?_
 clear hK K
 refine done_ (by kernel_rfl) ?_
 obtain ⟨w4,hw4⟩ : ∃ w4,w4 = w3.setCell ⟨B,0,none⟩ (.slice A1 (L.length + 1) cp1):=⟨_,rfl⟩
 rw [← hw4]
 have hR3 : w3.heap[w.heap.size]? = some (.cells #[.int .i64 0,.int .i64 0] 49 (0,0)):=(HH.out.2.2.1.block _ (by rw [hsM.out,hsz.out]; simp; omega) (zBW hA2.out.own hR2.out (by decide))).trans (((zAa (zAk (Below.refl _ _)) _).block _ (by rw [hsz.out]; simp)).trans hR2.out)
 have HW:=Lib.hid hw4
 have hB6 : Hid (w4.heap[B]? = some (.cells #[.slice A1 (L.length + 1) cp1] 40 (0,0))):=Lib.hid (by rw [hw4]; exact blk_put hB5 0 _ rfl)
 have hR4 : Hid (w4.heap[w.heap.size]? = some (.cells #[.int .i64 0,.int .i64 0] 49 (0,0))):=Lib.hid (by rw [hw4]; exact (Below.heap_setCell _ _ _ _ hne).trans hR3)
 have HB5:=Lib.hid hB5
 have HR3:=Lib.hid hR3
 clear cB fB hw4 hB5 hR3
 have c0:=bc_ hR4.out 0
 have c1:=bc_ hR4.out 1
 have f0:=zAc hR4.out 0
 have f1:=zAc hR4.out 1
 have cB:=bc_ hB6.out 0
 go_wp2_with fail
 refine bodyPost_ret (zAr rfl _ _ w.heap.size 49 #[.int .i64 3,.int .i64 (L.length + 1)] (0,0) _ rfl (blk_put (blk_put hR4.out 0 _ rfl) 1 _ rfl) Tryz.underlying49 rfl (by kernel_rfl)) rfl ?_
 refine ⟨rfl,?_,?_⟩
 ·have HM : Arrs (w1.drew.alloc (.cells (madeCells #[.int .i64 0] n.toNat) 3)) ok v gs L:=hA2.out.step (fun k hk _ => (zAa (zAk (Below.refl _ _)) _).block k hk)
  have hg : (w1.drew.alloc (.cells (madeCells #[.int .i64 0] n.toNat) 3)).heap[w1.heap.size]? = some (.cells (madeCells #[.int .i64 0] n.toNat) 3 (0,0)):=heap_alloc_new w1.drew _
  have hcu : (madeCells #[.int .i64 0] n.toNat).toList.take (List.replicate n.toNat (0 : Int)).length = ints (List.replicate n.toNat 0):=by
   rw [toList_madeCells_one]
   simp [ints]
  have hgn : w1.heap.size ∉ gs.map Prod.fst:=fun hm => by
   obtain ⟨j,hj,e⟩:=List.getElem_of_mem hm
   have hj' : j < gs.length:=by simpa using hj
   obtain ⟨_,cur,h3,_⟩:=hA2.out.at_ j hj' (hA2.out.len ▸ hj')
   have h:=blk_lt h3
   have e' : gs[j].1 = w1.heap.size:=by simpa using e
   omega
  have HO : w3.ownsRow 0 64 1 (.slice A1 (L.length + 1) cp1) (L.length + 1) (rows gs L ++ [.slice (some ⟨w1.heap.size,0,none⟩) (List.replicate n.toNat (0 : Int)).length n.toNat]):=by
   rw [List.length_replicate]
   exact HH.out.1
  have h3 : Arrs w3 (fun k => ok k ∨ (w.heap.size ≤ k ∧ k < w3.heap.size)) (.slice A1 (L.length + 1) cp1) (gs ++ [(w1.heap.size,n.toNat)]) (L ++ [List.replicate n.toNat 0]):=arrs_new HM hg hcu hgn HO HH.out.2.2.1 HH.out.2.2.2 (fun k hk => .inl hk) (.inr ⟨by rw [hsz.out]; simp,by have:=HH.out.2.1.size; rw [hsM.out] at this; omega⟩) (fun k hk hk2 => .inr ⟨by rw [hsM.out,hsz.out] at hk; simp at hk; omega,hk2⟩)
  have nB:=h3.ne HB5.out (by decide) (by decide)
  have nR:=h3.ne HR3.out (by decide) (by decide)
  have hs4 : w4.heap.size = w3.heap.size:=by rw [HW.out]; exact zBR _ _ _
  refine ⟨.inl hok,.slice A1 (L.length + 1) cp1,gs ++ [(w1.heap.size,n.toNat)],?_,?_⟩
  ·exact (Below.heap_setCell _ _ _ B (Ne.symm hne)).trans ((Below.heap_setCell _ _ _ B (Ne.symm hne)).trans hB6.out)
  ·rw [zBR,zBR,hs4]
   refine h3.step' (fun k hk ho => ?_)
   have k1 : k ≠ w.heap.size:=fun e => by subst e; rcases ho with ho | ho; exact nR.1 ho; exact nR.2 ho
   have k2 : k ≠ B:=fun e => by subst e; rcases ho with ho | ho; exact nB.1 ho; exact nB.2 ho
   exact (Below.heap_setCell _ _ _ k k1).trans ((Below.heap_setCell _ _ _ k k1).trans (by rw [HW.out]; exact Below.heap_setCell _ _ _ k k2))
 ·have H1 : Chg ok w w1:=(Chg.of (zAa (Below.refl _ _) _)).trans HC.out (fun x _ h => h ▸ hok)
  have H2 : Chg ok w (w1.drew.alloc (.cells (madeCells #[.int .i64 0] n.toNat) 3)):=H1.then (zAa (zAk (Below.refl _ _)) _)
  have hb:=HH.out.2.1
  have H3 : Chg ok w w3:=H2.trans (T:=fun k => v.ownBlock = some k) ⟨hb.os,hb.tape,hb.output,hb.size,fun k hk hn => HH.out.2.2.1.block k hk (fun e => hn e.symm)⟩ (fun k _ hk => hA2.out.vok k hk)
  have H4 : Chg ok w w4:=by rw [HW.out]; exact H3.set _ _ (fun _ => hok)
  exact (H4.set _ _ (fun h => absurd h (Nat.lt_irrefl _))).set _ _ (fun h => absurd h (Nat.lt_irrefl _))
def newL (L : List (List Int)) (n : Int) : List (List Int):=if n < 0 ∨ 65536 < n then L else if 262144 < cellsOf L + n + 1 then L else L ++ [List.replicate n.toNat 0]
def newK (L : List (List Int)) (n : Int) : Int:=if n < 0 ∨ 65536 < n then 0 else if 262144 < cellsOf L + n + 1 then 0 else 3
def newN (L : List (List Int)) (n : Int) : Int:=if n < 0 ∨ 65536 < n then 0 else if 262144 < cellsOf L + n + 1 then 0 else L.length + 1
def newE (L : List (List Int)) (n : Int) : Int:=if n < 0 ∨ 65536 < n then 4 else 0
def newR (L : List (List Int)) (n : Int) : Bool:=if n < 0 ∨ 65536 < n then true else if 262144 < cellsOf L + n + 1 then false else true
def getK (L : List (List Int)) (a n k i : Int) : Int:=if wrongF L a n k i = 0 then 1 else 0
def getN (L : List (List Int)) (a n k i : Int) : Int:=if wrongF L a n k i = 0 then (arrAt L n).getD i.toNat 0 else 0
def setL (L : List (List Int)) (a n k i s x : Int) : List (List Int):=if wrongF L a n k i = 0 ∧ s = 1 then L.set (n - 1).toNat ((arrAt L n).set i.toNat x) else L
def lenF (L : List (List Int)) (a n : Int) : Int:=if isB L a n = true then (arrAt L n).length else 0
def ext (ok : Nat → Prop) (w w' : World) (k : Nat) : Prop:=ok k ∨ (w.heap.size ≤ k ∧ k < w'.heap.size)
theorem isB_iff {L : List (List Int)} {a n : Int} : isB L a n = true ↔ a = 3 ∧ 1 ≤ n ∧ n ≤ (L.length : Int):=by simp [isB]
theorem zBC (L : List (List Int)) (a n k i : Int) : (isB L a n = false ∧ wrongF L a n k i = 3) ∨ (isB L a n = true ∧ (k ≠ 1 ∨ i < 0 ∨ ((arrAt L n).length : Int) ≤ i) ∧ wrongF L a n k i = 2) ∨ (isB L a n = true ∧ k = 1 ∧ 0 ≤ i ∧ i < ((arrAt L n).length : Int) ∧ wrongF L a n k i = 0):=by
 unfold wrongF
 by_cases h : isB L a n = false
 ·exact .inl ⟨h,by rw [if_pos h]⟩
 ·have h' : isB L a n = true:=by simpa using h
  rw [if_neg h]
  by_cases h2 : k ≠ 1 ∨ i < 0 ∨ ((arrAt L n).length : Int) ≤ i
  ·exact .inr (.inl ⟨h',h2,by rw [if_pos h2]⟩)
  ·exact .inr (.inr ⟨h',by omega,by omega,by omega,by rw [if_neg h2]⟩)
theorem wrong_vals (L : List (List Int)) (a n k i : Int) : wrongF L a n k i = 3 ∨ wrongF L a n k i = 2 ∨ wrongF L a n k i = 0:=by
 rcases zBC L a n k i with h | h | h
 ·exact .inl h.2
 ·exact .inr (.inl h.2.2)
 ·exact .inr (.inr h.2.2.2.2)
theorem rows_set : ∀ (gs : List (Nat × Nat)) (L : List (List Int)) (j : Nat) (l : List Int),l.length = (L.getD j []).length → rows gs (L.set j l) = rows gs L
 | g :: gs,xs :: L,0,l,h => by simp at h; simp [rows,h]
 | g :: gs,xs :: L,j + 1,l,h => by simp [rows]; exact rows_set gs L j l (by simpa using h)
 | [],_,_,_,_ => by simp [rows]
 | _ :: _,[],_,_,_ => by simp
theorem zDb : ∀ (L : List (List Int)) (j : Nat) (l : List Int),l.length = (L.getD j []).length → cellsOf (L.set j l) = cellsOf L
 | xs :: L,0,l,h => by simp at h; simp [cellsOf,h]
 | xs :: L,j + 1,l,h => by simp [cellsOf]; exact zDb L j l (by simpa using h)
 | [],_,_,_ => by simp
theorem ints_set (l : List Int) (i : Nat) (x : Int) : ints (l.set i x) = (ints l).set i (.int .i64 x):=by simp [ints,List.map_set]
theorem fst_inj {gs : List (Nat × Nat)} (h : (gs.map Prod.fst).Nodup) {i j : Nat} (hi : i < gs.length) (hj : j < gs.length) (e : gs[i].1 = gs[j].1) : i = j:=by
 have h1 : (gs.map Prod.fst)[i]'(by simpa using hi) = (gs.map Prod.fst)[j]'(by simpa using hj):=by simpa using e
 exact (List.getElem_inj h).1 h1
theorem Arrs.set {W : World} {ok : Nat → Prop} {v : Value} {gs : List (Nat × Nat)} {L : List (List Int)} (h : Arrs W ok v gs L) {j i d q : Nat} (hj : j < L.length) (hd : gs[j]? = some (d,q)) (hi : i < (L.getD j []).length) (x : Int) : Arrs (W.setCell ⟨d,i,none⟩ (.int .i64 x)) ok v gs (L.set j ((L.getD j []).set i x)):=by
 obtain ⟨hjg,hd'⟩:=List.getElem?_eq_some_iff.1 hd
 obtain ⟨hok,cur,hb,hc⟩:=h.at_ j hjg hj
 rw [hd'] at hb
 have hdv : v.ownBlock ≠ some d:=fun e => zBW h.own hb (by decide) e.symm
 refine ⟨?_,h.vok,by simp [h.len],h.nd,fun m hm hm' => ?_⟩
 ·rw [rows_set _ _ _ _ (by simp),List.length_set]
  exact zCj h.own (fun k hk => Below.heap_setCell W _ _ k (fun e => hdv (by rw [hk]; exact congrArg some e)))
 ·have hm2 : m < L.length:=by simpa using hm'
  by_cases e : m = j
  ·subst e
   refine ⟨by rw [hd'] at hok ⊢; exact hok,cur.setIfInBounds i (.int .i64 x),by rw [hd']; exact blk_put hb i _ rfl,?_⟩
   rw [List.getElem_set_self]
   rw [getD_lt _ _ hj] at hi ⊢
   rw [ints_set,← hc]
   simp only [Array.toList_setIfInBounds,List.length_set]
   rw [List.take_set]
  ·obtain ⟨ho,cur',hb',hc'⟩:=h.at_ m hm hm2
   rw [List.getElem_set_ne (Ne.symm e)]
   refine ⟨ho,cur',(Below.heap_setCell W _ _ _ (fun e2 => e ?_)).trans hb',hc'⟩
   exact fst_inj h.nd hm hjg (by rw [hd']; exact e2)
theorem HA.lens {W : World} {B : Nat} {ok : Nat → Prop} {L : List (List Int)} (h : HA W B ok L) (hc : cellsOf L ≤ 262144) : L.length ≤ 1000000 ∧ ∀ n,(arrAt L n).length ≤ 1000000:=by
 have h1:=zBn L
 exact ⟨by omega,fun n => by have:=zCH L (n - 1).toNat; unfold arrAt; omega⟩
theorem lens {L : List (List Int)} (hc : cellsOf L ≤ 262144) : L.length ≤ 1000000 ∧ ∀ n,(arrAt L n).length ≤ 1000000:=by
 have h1:=zBn L
 exact ⟨by omega,fun n => by have:=zCH L (n - 1).toNat; unfold arrAt; omega⟩
theorem HA.mono {W : World} {B : Nat} {ok ok' : Nat → Prop} {L : List (List Int)} (h : HA W B ok L) (hs : ∀ k,ok k → ok' k) : HA W B ok' L:=by
 obtain ⟨hb,v,gs,h1,h2⟩:=h
 exact ⟨hs _ hb,v,gs,h1,h2.own,fun k hk => hs _ (h2.vok k hk),h2.len,h2.nd,fun j hj hj' => ⟨hs _ (h2.at_ j hj hj').1,(h2.at_ j hj hj').2⟩⟩
theorem HR.mono {W : World} {B : Nat} {ok ok' : Nat → Prop} {L : List (List Int)} (h : HR W B ok L) (hs : ∀ k,ok k → ok' k) : HR W B ok' L:=by
 obtain ⟨hb,v,gs,h1,h2⟩:=h
 exact ⟨hs _ hb,v,gs,h1,h2.own,fun k hk => hs _ (h2.vok k hk),h2.len,h2.nd,fun j hj hj' => ⟨hs _ (h2.at_ j hj hj').1,(h2.at_ j hj hj').2⟩⟩
theorem hnew {B : Nat} {ok : Nat → Prop} {L : List (List Int)} (n : Int) {w : World} (h : HA w B ok L) (hc : cellsOf L ≤ 262144) :
  Calls Tryz.prog 12 #[.pointer (some ⟨B,0,none⟩),.int .i64 n] w fun e w' => e = .returned (.tuple #[.agg #[.int .i64 (newK L n),.int .i64 (newN L n)],.int .i64 (newE L n),.bool (newR L n)]) ∧ HA w' B (ext ok w w') (newL L n) ∧ Chg ok w w':=by
 obtain ⟨hb,v,gs,h1,h2⟩:=h
 have hl:=zBn L
 have hl0:=zAU L
 unfold newK newN newE newR newL
 by_cases c1 : n < 0 ∨ 65536 < n
 ·simp only [if_pos c1]
  refine (new_size B n w c1).mono fun e w' hh => ?_
  obtain ⟨he,hw⟩:=hh
  exact ⟨he,HA.mono (HA.below ⟨hb,v,gs,h1,h2⟩ hw) (fun k hk => .inl hk),Chg.of hw⟩
 ·simp only [if_neg c1]
  by_cases c2 : 262144 < cellsOf L + n + 1
  ·simp only [if_pos c2]
   refine (new_full B v (cellsOf L) n w h1 (by omega) (by omega) hl0 hc c2).mono fun e w' hh => ?_
   obtain ⟨he,hB,hw⟩:=hh
   have hn:=h2.ne h1 (by decide) (by decide)
   have h2' : Arrs w' ok v gs L:=h2.step' (fun k hk ho => hw.block k hk (fun e => by subst e; rcases ho with ho | ho; exact hn.1 ho; exact hn.2 ho))
   exact ⟨he,HA.mono ⟨hb,v,gs,hB,h2'⟩ (fun k hk => .inl hk),hw.mono (fun x _ hx => hx ▸ hb)⟩
  ·simp only [if_neg c2]
   refine (new_is B v gs ok L n w h1 h2 hb (by omega) (by omega) hl (by omega)).mono fun e w' hh => ?_
   exact ⟨hh.1,hh.2.1,hh.2.2⟩
theorem cell_any {B : Nat} {ok : Nat → Prop} {L : List (List Int)} (a n k i : Int) {w : World} (h : HA w B ok L) (hc : cellsOf L ≤ 262144) :
  (wrongF L a n k i ≠ 0 ∧ ∀ w1,Below w.heap.size w w1 → Calls Tryz.prog 28 #[.pointer (some ⟨B,0,none⟩),.agg #[.int .i64 a,.int .i64 n],.agg #[.int .i64 k,.int .i64 i]] w1 fun e w' => e = .returned (.tuple #[.pointer none,.int .i64 (wrongF L a n k i)]) ∧ Below w1.heap.size w1 w') ∨
  (wrongF L a n k i = 0 ∧ i.toNat < (arrAt L n).length ∧ (n - 1).toNat < L.length ∧ ∃ v gs d q,w.heap[B]? = some (.cells #[v,.int .i64 (cellsOf L)] 37 (0,0)) ∧ Arrs w ok v gs L ∧ gs[(n - 1).toNat]? = some (d,q) ∧ RowAt w ok d (arrAt L n) ∧ ∀ w1,Below w.heap.size w w1 → Calls Tryz.prog 28 #[.pointer (some ⟨B,0,none⟩),.agg #[.int .i64 a,.int .i64 n],.agg #[.int .i64 k,.int .i64 i]] w1 fun e w' => e = .returned (.tuple #[.pointer (some ⟨d,i.toNat,none⟩),.int .i64 0]) ∧ Below w1.heap.size w1 w'):=by
 obtain ⟨hl,hls⟩:=lens hc
 obtain ⟨hb,v,gs,h1,h2⟩:=h
 rcases zBC L a n k i with ⟨hi,e⟩ | ⟨hi,hr,e⟩ | ⟨hi,hk,h0,hm,e⟩
 ·rw [e]
  exact .inl ⟨by decide,fun w1 hw => cell_missing (zAe h1 hw) (h2.step (fun k hk _ => hw.block k hk)) hl a n k i hi⟩
 ·rw [e]
  obtain ⟨rfl,hn1,hn2⟩:=isB_iff.1 hi
  obtain ⟨g,c,d,q,rfl,hg,hgs,hcell,hrow⟩:=h2.one hn1 hn2
  exact .inl ⟨by decide,fun w1 hw => cell_range1 n k i (zAe h1 hw) hl hn1 hn2 (Nat.lt_of_lt_of_le hg hw.size) (zAb hw hcell) (hls n) hr⟩
 ·rw [e]
  obtain ⟨rfl,hn1,hn2⟩:=isB_iff.1 hi
  subst hk
  obtain ⟨g,c,d,q,rfl,hg,hgs,hcell,hrow⟩:=h2.one hn1 hn2
  refine .inr ⟨rfl,by omega,by omega,_,gs,d,q,h1,h2,hgs,hrow,fun w1 hw => ?_⟩
  exact cell_ok n i (zAe h1 hw) hl hn1 hn2 (Nat.lt_of_lt_of_le hg hw.size) (zAb hw hcell) (hls n) h0 hm
theorem hget {B : Nat} {ok : Nat → Prop} {L : List (List Int)} (a n k i : Int) {w : World} (h : HA w B ok L) (hc : cellsOf L ≤ 262144) :
  Calls Tryz.prog 14 #[.pointer (some ⟨B,0,none⟩),.agg #[.int .i64 a,.int .i64 n],.agg #[.int .i64 k,.int .i64 i]] w fun e w' => e = .returned (.tuple #[.agg #[.int .i64 (getK L a n k i),.int .i64 (getN L a n k i)],.int .i64 (wrongF L a n k i)]) ∧ Below w.heap.size w w':=by
 unfold getK getN
 rcases cell_any a n k i h hc with ⟨hne,hcell⟩ | ⟨he,hi,hj,v,gs,d,q,h1,h2,hgs,hrow,hcell⟩
 ·simp only [if_neg hne]
  have hv:=wrong_vals L a n k i
  exact get_err a n k i _ (by omega) hcell
 ·simp only [if_pos he,he]
  exact get_is a n k i i.toNat _ hrow.lt (hrow.cell _ hi) hcell
theorem hset {B : Nat} {ok : Nat → Prop} {L : List (List Int)} (a n k i s x : Int) {w : World} (h : HA w B ok L) (hc : cellsOf L ≤ 262144) :
  Calls Tryz.prog 13 #[.pointer (some ⟨B,0,none⟩),.agg #[.int .i64 a,.int .i64 n],.agg #[.int .i64 k,.int .i64 i],.agg #[.int .i64 s,.int .i64 x]] w fun e w' => e = .returned (.int .i64 (wrongF L a n k i)) ∧ HA w' B ok (setL L a n k i s x) ∧ Chg ok w w':=by
 unfold setL
 rcases cell_any a n k i h hc with ⟨hne,hcell⟩ | ⟨he,hi,hj,v,gs,d,q,h1,h2,hgs,hrow,hcell⟩
 ·rw [if_neg (fun hh => hne hh.1)]
  have hv:=wrong_vals L a n k i
  refine (set_err a n k i s x _ (by omega) hcell).mono fun e w' hh => ?_
  exact ⟨hh.1,h.below hh.2,Chg.of hh.2⟩
 ·rw [he]
  by_cases hs : s = 1
  ·subst hs
   rw [if_pos ⟨rfl,rfl⟩]
   refine (set_is a n k i x _ hrow.lt (hrow.cell _ hi) (hrow.frozen _) hcell).mono fun e w' hh => ?_
   obtain ⟨he,w1,hb,rfl⟩:=hh
   have h2':=h2.step (W':=w1) (fun k hk _ => hb.block k hk)
   have h1':=zAe h1 hb
   have hn:=h2'.ne h1' (by decide) (by decide)
   obtain ⟨hjg,hd'⟩:=List.getElem?_eq_some_iff.1 hgs
   have hBd : B ≠ d:=fun e => hn.2 (List.mem_map.2 ⟨_,List.getElem_mem hjg,by rw [hd',e]⟩)
   refine ⟨he,⟨h.bok,v,gs,?_,h2'.set hj hgs hi x⟩,(Chg.of hb).set _ _ (fun _ => hrow.ok)⟩
   rw [zDb _ _ _ (by simp [arrAt])]
   exact (Below.heap_setCell w1 _ _ B hBd).trans h1'
  ·rw [if_neg (fun hh => hs hh.2)]
   refine (set_nop a n k i s x hs hcell).mono fun e w' hh => ?_
   exact ⟨hh.1,h.below hh.2,Chg.of hh.2⟩
theorem hlen {B : Nat} {ok : Nat → Prop} {L : List (List Int)} (a n : Int) {w : World} (h : HA w B ok L) (hc : cellsOf L ≤ 262144) :
  Calls Tryz.prog 38 #[.pointer (some ⟨B,0,none⟩),.agg #[.int .i64 a,.int .i64 n]] w fun e w' => e = .returned (.int .i64 (lenF L a n)) ∧ Below w.heap.size w w':=by
 obtain ⟨hl,hls⟩:=lens hc
 obtain ⟨hb,v,gs,h1,h2⟩:=h
 unfold lenF
 by_cases hi : isB L a n = true
 ·rw [if_pos hi]
  obtain ⟨rfl,hn1,hn2⟩:=isB_iff.1 hi
  obtain ⟨g,c,d,q,rfl,hg,hgs,hcell,hrow⟩:=h2.one hn1 hn2
  exact len_of 3 n _ q true (hls n) (fun w1 hw => zDf n (zAe h1 hw) hl hn1 hn2 (Nat.lt_of_lt_of_le hg hw.size) (zAb hw hcell))
 ·rw [if_neg hi]
  exact len_of (m:=0) a n none 0 false (by decide) (fun w1 hw => array_no (zAe h1 hw) (h2.step (fun k hk _ => hw.block k hk)) hl a n (by simpa using hi))
attribute [local go_sem] zAP zAQ max_two min_two zAK zAJ zAS zAR
def zBQ.f (a0 : Int) : Option (Int × Int):=some (a0,0)
theorem zBQ.calls (a0 : Int) (r1 : Int) (r2 : Int) (w : World) (h : zBQ.f a0 = some (r1,r2)) :
  Calls Tryz.prog 15 #[.int .i64 a0] w fun e w' => e = .returned (.agg #[.int .i64 r1,.int .i64 r2]) ∧ Below w.heap.size w w':=by
 have hu43:=Tryz.underlying43
 have HB:=Aside0.mk (Below.refl w.heap.size w)
 have H : (some (a0,0)) = some (r1,r2):=h
 clear h
 simp only [Option.some.injEq,Prod.mk.injEq] at H
 obtain ⟨rfl,rfl⟩:=H
 go_enter Tryz.func15,Tryz.ntmps15
 go_wp2_with (first | ((with_reducible refine zAZ (N:=2) rfl ?_); refine zBa ?hg (N:=2) ?hd (cs:=#[.int .i64 0,.int .i64 0]) (t:=43) ?hr ?_; (case hd => rfl); (case hg => rfl); (case hr => first | (go_simp; done) | (go_simp; rfl)); intro gb151 hg w2 hbox hb; have n0_:=Aside0.mk (zAd (by repeat (first | (with_reducible first | exact HB.out | apply zAa | apply zAf | apply zAi) | exact HB.out)) hb); have n1_:=Aside0.mk (hbox); have n2_:=Aside0.mk ((by rw [hg]; exact (zAy (by repeat (first | (with_reducible first | exact HB.out | apply zAa | apply zAf | apply zAi) | exact HB.out))) : w.heap.size ≤ gb151)); have n3_:=Aside0.mk ((by rw [hg]; exact (zAy (by repeat (first | (with_reducible first | exact HB.out | apply zAa | apply zAf | apply zAi) | exact HB.out))) : w.heap.size ≤ gb151)); clear HB; have HB:=n0_; have BK151:=n1_; have GW151:=n2_; have GE151:=n3_; clear n0_ n1_ n2_ n3_; clear hb hbox hg; have hcz3_0 : w2.cell? ⟨gb151,0,none⟩ = some (.int .i64 0):=(zAh BK151.out 0).trans rfl; have hcz3_1 : w2.cell? ⟨gb151,1,none⟩ = some (.int .i64 0):=(zAh BK151.out 1).trans rfl; have hfz3_0:=zAc BK151.out 0; have hfz3_1:=zAc BK151.out 1))
 refine bodyPost_ret (results_cell_row rfl _ _ gb151 43 #[.int .i64 a0,.int .i64 0] (0,0) _ rfl (by (with_reducible repeat (first | apply zAo | apply zAl | apply zAj)); refine blk_put (cs:=#[.int .i64 a0,.int .i64 0]) ?_ 1 _ rfl; (with_reducible repeat (first | apply zAo | apply zAl | apply zAj)); refine blk_put (cs:=#[.int .i64 0,.int .i64 0]) ?_ 0 _ rfl; (with_reducible repeat (first | apply zAo | apply zAl | apply zAj)); exact BK151.out) Tryz.underlying43 rfl (by kernel_rfl)) rfl ?_
 exact ⟨by first | rfl | (simp [zAs,zAt] <;> rfl) | (simp [*,zAs,zAt] <;> rfl),by repeat (first | (with_reducible first | exact HB.out | apply zAa | apply zAf | apply zAi | refine zAu ?_ GE151.out) | exact HB.out)⟩
end Go.Proofs.YtkhlfdcjgooogaaGreat.P
