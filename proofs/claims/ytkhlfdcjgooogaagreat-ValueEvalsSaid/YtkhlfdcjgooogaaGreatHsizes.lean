import Derived.Test.YtkhlfdcjgooogaaGreatHback
import Derived.Shelf.RegionOpen
import Derived.Maps.AppendAt
import Derived.RangeFuncCalls
set_option maxRecDepth 100000
set_option maxHeartbeats 16000000
set_option linter.unusedVariables false
set_option linter.unusedSimpArgs false
set_option linter.unusedSectionVars false
namespace Go.Proofs.YtkhlfdcjgooogaaGreat.P
open Go.RowKit Go.Shelf Go.Proofs.YtkhlfdcjgooogaaGreatW.PrintWords Go.Proofs.YtkhlfdcjgooogaaGreatW.PrintLast Go.Proofs.YtkhlfdcjgooogaaGreatW.PrintMore
attribute [local go_sem] Oper.semAt_some
def szInner (out : List Int) : List Int → Int → Int → Option Int
 | [],s,_ => some s
 | k :: ks,s,la => if k = la ∧ 0 ≤ k then szInner out ks (s + rd out k) (k - rd out k) else none
def szOuter : List S66 → List Int → Option (List Int)
 | [],out => some out
 | n :: ns,out => match szInner out n.f4.reverse 1 ((out.length : Int) - 1) with
  | none => none
  | some s => szOuter ns (out ++ [s])
def zAT.f (l0 : List S66) : Option (List Int × Bool) :=
 if l0.length < 17592186044416 then some (match szOuter l0 [] with | some o => (o,true) | none => ([],false)) else none
def szGood (out : List Int) : Prop:=∀ j,0 ≤ j → j < (out.length : Int) → 1 ≤ rd out j ∧ rd out j ≤ j + 1
def szFold (out : List Int) : List (Int × Int) → Int → Int → Option (Int × Int)
 | [],s,la => some (s,la)
 | x :: xs,s,la => if x.2 = la ∧ 0 ≤ x.2 then szFold out xs (s + rd out x.2) (x.2 - rd out x.2) else none
theorem zCm (out : List Int) (x : Int × Int) : ∀ (xs : List (Int × Int)) (s la : Int),szFold out (xs ++ [x]) s la = (szFold out xs s la).bind fun p => if x.2 = p.2 ∧ 0 ≤ x.2 then some (p.1 + rd out x.2,x.2 - rd out x.2) else none
 | [],s,la => by simp [szFold]
 | y :: ys,s,la => by
  simp only [List.cons_append,szFold]
  split
  ·exact zCm out x ys _ _
  ·rfl
theorem szFold_prefix_none (out : List Int) : ∀ (xs ys : List (Int × Int)) (s la : Int),szFold out xs s la = none → szFold out (xs ++ ys) s la = none
 | [],ys,s,la,h => by simp [szFold] at h
 | x :: xs,ys,s,la,h => by
  simp only [List.cons_append,szFold] at h ⊢
  split
  ·rename_i hc; rw [if_pos hc] at h; exact szFold_prefix_none out xs ys _ _ h
  ·rfl
theorem zCg (out : List Int) : ∀ (xs : List (Int × Int)) (s la : Int),szInner out (xs.map Prod.snd) s la = (szFold out xs s la).map Prod.fst
 | [],s,la => rfl
 | x :: xs,s,la => by
  simp only [List.map_cons,szInner,szFold]
  split
  ·exact zCg out xs _ _
  ·rfl
theorem revp_snd (zs : List Int) : (revp zs).map Prod.snd = zs.reverse:=by
 apply List.ext_getElem
 ·simp [revp]
 ·intro i h1 h2
  simp only [List.length_map,zBS] at h1
  simp only [revp,List.map_map,List.getElem_map,List.getElem_range,Function.comp,List.getElem_reverse]
  have h3 : ((zs.length : Int) - 1 - i).toNat = zs.length - 1 - i:=by omega
  simp only [rd,h3]
  rw [List.getD_eq_getElem?_getD,List.getElem?_eq_getElem (by omega)]
  rfl
theorem szGood_snoc {out : List Int} (h : szGood out) {s : Int} (h1 : 1 ≤ s) (h2 : s ≤ (out.length : Int) + 1) : szGood (out ++ [s]):=by
 intro j h0 hj
 rw [List.length_append,List.length_singleton] at hj
 by_cases hlt : j < (out.length : Int)
 ·have h3 : rd (out ++ [s]) j = rd out j:=by
   unfold rd
   rw [List.getD_eq_getElem?_getD,List.getD_eq_getElem?_getD,List.getElem?_append_left (by omega)]
  rw [h3]
  exact h j h0 hlt
 ·have hj' : j = (out.length : Int):=by omega
  subst hj'
  have h3 : rd (out ++ [s]) (out.length : Int) = s:=by
   unfold rd
   rw [List.getD_eq_getElem?_getD,List.getElem?_append_right (by omega)]
   simp
  rw [h3]
  omega
def mkD (D : Nat) : Deferred:={ target:=.collected D,args:=#[] }
theorem zBZ {F : Fence} {n : Nat} {P : Program} {fn : Func} {tmps : Array Value} {R : Ending → World → Prop} : ∀ (Ds : List Nat) (W : World),Ds.Nodup → (∀ D,D ∈ Ds → W.heap[D]? = some (.deferred (some []))) →
  (∀ W' : World,W'.os = W.os → W'.tape = W.tape → W'.output = W.output → W'.heap.size = W.heap.size → (∀ k,k ∉ Ds → W'.heap[k]? = W.heap[k]?) → LeavesInM F n P fn tmps R [] .returning W') →
  LeavesInM F n P fn tmps R (Ds.map mkD) .returning W
 | [],W,_,_,h => h W rfl rfl rfl rfl (fun _ _ => rfl)
 | D :: Ds,W,hn,hD,h => by
  have hD0:=hD D List.mem_cons_self
  refine ⟨by simp,.inl ⟨D,_,rfl,run_takeDeferred hD0,?_⟩⟩
  have hlt : D < W.heap.size:=(Array.getElem?_eq_some_iff.1 hD0).1
  have hn1:=List.nodup_cons.1 hn
  refine zBZ Ds _ hn1.2 (fun D' hm => ?_) (fun W' h1 h2 h3 h4 h5 => h W' h1 h2 h3 (h4.trans (by simp)) (fun k hk => ?_))
  ·rw [World.putObj_heap_other (fun e => hn1.1 (by rw [← e]; exact hm))]
   exact hD D' (List.mem_cons_of_mem _ hm)
  ·rw [h5 k (fun hm => hk (List.mem_cons_of_mem _ hm))]
   exact World.putObj_heap_other (fun e => hk (by rw [e]; exact List.mem_cons_self))
structure SzI (w : World) (l0 : List S66) (W : World) (i : Nat) (out : List Int) (vo : Value) (Ds : List Nat) : Prop where
 le : i ≤ l0.length
 len : out.length = i
 good : szGood out
 pure : szOuter l0 [] = szOuter (l0.drop i) out
 b0 : Boxed W w.heap.size 64 (.slice none 0 0)
 b1 : Boxed W (w.heap.size + 1) 4 (.bool false)
 b2 : Boxed W (w.heap.size + 2) 64 vo
 row : W.ownsRow w.heap.size 3 1 vo out.length (nums .i64 out)
 below : Below w.heap.size w W
 nodup : Ds.Nodup
 marks : ∀ D,D ∈ Ds → w.heap.size ≤ D ∧ W.heap[D]? = some (.deferred (some []))
structure SzIn (w W W2 : World) (out : List Int) (i : Int) (pre : List (Int × Int)) (W' : World) : Prop where
 keep : KeepT (W.heap.size + 4) (fun k => k = W.heap.size + 1 ∨ k = W.heap.size + 2) W2 W'
 below : Below w.heap.size w W'
 st : ∃ s la,szFold out pre 1 (i - 1) = some (s,la) ∧ s + la = i ∧ -1 ≤ la ∧ la ≤ i - 1 ∧ Boxed W' (W.heap.size + 1) 3 (.int .i64 s) ∧ Boxed W' (W.heap.size + 2) 3 (.int .i64 la)
structure SzOut (w : World) (out : List Int) (i : Int) (Ds : List Nat) (c : Code) (pre : List (Int × Int)) (W' : World) : Prop where
 code : c = .ret
 bad : szFold out pre 1 (i - 1) = none
 b0 : Boxed W' w.heap.size 64 (.slice none 0 0)
 b1 : Boxed W' (w.heap.size + 1) 4 (.bool false)
 below : Below w.heap.size w W'
 marks : ∀ D,D ∈ Ds → W'.heap[D]? = some (.deferred (some []))
theorem KeepT.own {M : Nat} {T : Nat → Prop} {W2 X Y : World} {row : Option Nat} (h : KeepT M T W2 X) (hM : M ≤ W2.heap.size) (hg : X.grownBy Y row) (hr : ∀ r,row = some r → M ≤ r) : KeepT M T W2 Y:=fun k hk ht => by
 have h1:=h k hk ht
 have hlt : k < X.heap.size:=by
  have h2 : W2.heap[k]? = some (W2.heap[k]'(by omega)):=Array.getElem?_eq_getElem (by omega)
  exact (Array.getElem?_eq_some_iff.1 (h1.trans h2)).1
 exact (hg.block k hlt (fun e => by have:=hr k e.symm; omega)).trans h1
theorem SzIn.own {w W W2 : World} {out : List Int} {i : Int} (hS : W2.heap.size = W.heap.size + 4) (hw : w.heap.size ≤ W2.heap.size) : OwnFrom W2.heap.size (SzIn w W W2 out i):=fun pre X Y row h hg hr => by
 obtain ⟨s,la,h1,h2,h3,h4,h5,h6⟩:=h.st
 refine ⟨h.keep.own (by omega) hg (fun r e => by have:=(hr r e).1; omega),h.below.grown hg h.below.size (fun k e => by have:=(hr k e).1; omega),s,la,h1,h2,h3,h4,h5.kept hg (fun e => ?_),h6.kept hg (fun e => ?_)⟩
 ·have:=(hr _ e.symm).1; omega
 ·have:=(hr _ e.symm).1; omega
theorem SzOut.own {w W2 : World} {out : List Int} {i : Int} {Ds : List Nat} (hS : w.heap.size + 2 ≤ W2.heap.size) (hD : ∀ D,D ∈ Ds → D < W2.heap.size) (c : Code) : OwnFrom W2.heap.size (SzOut w out i Ds c):=fun pre X Y row h hg hr =>
 ⟨h.code,h.bad,h.b0.kept hg (fun e => by have:=(hr _ e.symm).1; omega),h.b1.kept hg (fun e => by have:=(hr _ e.symm).1; omega),h.below.grown hg h.below.size (fun k e => by have:=(hr k e).1; omega),
  fun D hm => (hg.block D (Array.getElem?_eq_some_iff.1 (h.marks D hm)).1 (fun e => by have:=(hr _ e.symm).1; have:=hD D hm; omega)).trans (h.marks D hm)⟩
theorem SzIn.step {w W W2 X : World} {out : List Int} {i : Int} {pre : List (Int × Int)} {x : Int × Int} {s : Int} (hS : w.heap.size + 2 < W.heap.size) (hi : i ≤ (out.length : Int)) (h : SzIn w W W2 out i pre X) (hf : szFold out pre 1 (i - 1) = some (s,x.2)) (hsl : s + x.2 = i)
  (h0 : 0 ≤ x.2) (hl : x.2 ≤ i - 1) (hg1 : 1 ≤ rd out x.2) (hg2 : rd out x.2 ≤ x.2 + 1) (b1 : Boxed X (W.heap.size + 1) 3 (.int .i64 s)) (b2 : Boxed X (W.heap.size + 2) 3 (.int .i64 x.2)) :
  KeepsOthers X ((X.setCell ⟨W.heap.size + 1,0,none⟩ (.int .i64 (s + rd out x.2))).setCell ⟨W.heap.size + 2,0,none⟩ (.int .i64 (x.2 - rd out x.2))).drew ∧
  KeepT (W.heap.size + 4) (fun k => k = W.heap.size + 1 ∨ k = W.heap.size + 2) X ((X.setCell ⟨W.heap.size + 1,0,none⟩ (.int .i64 (s + rd out x.2))).setCell ⟨W.heap.size + 2,0,none⟩ (.int .i64 (x.2 - rd out x.2))).drew ∧
  SzIn w W W2 out i (pre ++ [x]) ((X.setCell ⟨W.heap.size + 1,0,none⟩ (.int .i64 (s + rd out x.2))).setCell ⟨W.heap.size + 2,0,none⟩ (.int .i64 (x.2 - rd out x.2))).drew:=by
 have hk : KeepT (W.heap.size + 4) (fun k => k = W.heap.size + 1 ∨ k = W.heap.size + 2) X ((X.setCell ⟨W.heap.size + 1,0,none⟩ (.int .i64 (s + rd out x.2))).setCell ⟨W.heap.size + 2,0,none⟩ (.int .i64 (x.2 - rd out x.2))).drew:=fun k _ ht =>
  (Below.heap_setCell _ _ _ k (fun e => ht (.inr e))).trans (Below.heap_setCell _ _ _ k (fun e => ht (.inl e)))
 refine ⟨((KeepsOthers.setCell _ _ _).trans (KeepsOthers.setCell _ _ _)).trans (KeepsOthers.drew _),hk,h.keep.trans hk,zAk ((h.below.setCell (p:=⟨W.heap.size + 1,0,none⟩) (by simp; omega) _).setCell (p:=⟨W.heap.size + 2,0,none⟩) (by simp; omega) _),
  s + rd out x.2,x.2 - rd out x.2,?_,by omega,by omega,by omega,?_,?_⟩
 ·rw [zCm,hf]
  simp [h0]
 ·change Boxed ((X.setCell ⟨W.heap.size + 1,0,none⟩ (.int .i64 (s + rd out x.2))).setCell ⟨W.heap.size + 2,0,none⟩ (.int .i64 (x.2 - rd out x.2))) _ _ _
  exact (b1.set (.int .i64 (s + rd out x.2))).kept (grownBy_setCell' _ (W.heap.size + 2) _) (by simp)
 ·change Boxed ((X.setCell ⟨W.heap.size + 1,0,none⟩ (.int .i64 (s + rd out x.2))).setCell ⟨W.heap.size + 2,0,none⟩ (.int .i64 (x.2 - rd out x.2))) _ _ _
  exact (b2.kept (grownBy_setCell' X (W.heap.size + 1) (.int .i64 (s + rd out x.2))) (by simp)).set (.int .i64 (x.2 - rd out x.2))
theorem SzOut.step {w W W2 X : World} {out : List Int} {i : Int} {Ds : List Nat} {pre : List (Int × Int)} {x : Int × Int} {s la : Int} (hS : w.heap.size + 2 < W.heap.size) (h : SzIn w W W2 out i pre X) (hf : szFold out pre 1 (i - 1) = some (s,la)) (hx : ¬ (x.2 = la ∧ 0 ≤ x.2))
  (b0 : Boxed X w.heap.size 64 (.slice none 0 0)) (b1 : Boxed X (w.heap.size + 1) 4 (.bool false)) (hD : ∀ D,D ∈ Ds → X.heap[D]? = some (.deferred (some []))) :
  KeepsOthers X ((X.setCell ⟨w.heap.size,0,none⟩ (.slice none 0 0)).setCell ⟨w.heap.size + 1,0,none⟩ (.bool false)) ∧
  SzOut w out i Ds .ret (pre ++ [x]) ((X.setCell ⟨w.heap.size,0,none⟩ (.slice none 0 0)).setCell ⟨w.heap.size + 1,0,none⟩ (.bool false)):=by
 have hko : KeepsOthers X ((X.setCell ⟨w.heap.size,0,none⟩ (.slice none 0 0)).setCell ⟨w.heap.size + 1,0,none⟩ (.bool false)):=(KeepsOthers.setCell _ _ _).trans (KeepsOthers.setCell _ _ _)
 refine ⟨hko,rfl,?_,?_,?_,(h.below.setCell (p:=⟨w.heap.size,0,none⟩) (Nat.le_refl _) _).setCell (p:=⟨w.heap.size + 1,0,none⟩) (by simp) _,fun D hm => hko.same D _ (hD D hm) rfl⟩
 ·rw [zCm,hf]
  simp only [Option.bind_some,if_neg hx]
 ·exact (b0.set _).kept (grownBy_setCell' _ (w.heap.size + 1) _) (by simp)
 ·exact (b1.kept (grownBy_setCell' X w.heap.size _) (by simp)).set _
theorem zAT.calls (A0 : Option Addr) (c0 : Nat) (l0 : List S66) (r1 : List Int) (r2 : Bool) (w : World) (hr0 : Kd.C k66 w A0 l0.length l0) (hc0 : l0.length ≤ c0) (h : zAT.f l0 = some (r1,r2)) :
  Calls Tryz.prog 92 #[.slice A0 l0.length c0] w fun e w' => ∃ v0_ : Value,e = .returned (.tuple #[v0_,.bool r2]) ∧ Kd.R (Kd.int .i64) 3 w' w.heap.size (fun _ => True) v0_ r1 ∧ Below w.heap.size w w':=by
 have HR:=Aside0.mk hr0
 have HC:=Aside0.mk hc0
 clear hr0 hc0
 have hbnd : l0.length < 17592186044416:=by
  unfold zAT.f at h
  split at h
  ·assumption
  ·cases h
 have H:=Lib.hid h
 clear h
 refine (callsIn_wide (n:=5)).1 ?_
 refine callsIn_of_wp_marks Tryz.func92 rfl trivial ?_ rfl
 simp only [Tryz.ntmps92,List.size_toArray,List.length_cons,List.length_nil,Nat.reduceAdd,Nat.reduceSub,Array.replicate_succ,Array.replicate_zero,List.push_toArray,List.append_toArray,List.nil_append,List.cons_append]
 gi_wp2
 refine wpIn_loop (fun a W => ∃ (i : Nat) (out : List Int) (vo : Value) (Ds : List Nat) (u5 u6 u7 u8 u9 u10 u14 u15 u16 u17 u18 u19 u20 u21 u22 u23 u24 u25 u26 u27 u28 u29 u30 u31 u32 u33 u34 u35 u36 u37 u38 u39 u40 u41 u42 u43 u44 u45 u46 u47 u48 u49 : Value),a = { tmps:=#[(.slice A0 l0.length c0),undef,(.pointer (some ⟨w.heap.size,0,none⟩)),(.pointer (some ⟨w.heap.size + 1,0,none⟩)),(.pointer (some ⟨w.heap.size + 2,0,none⟩)),u5,u6,u7,u8,u9,u10,(.slice A0 l0.length c0),(.int .i64 l0.length),(.int .i64 (i : Int)),u14,u15,u16,u17,u18,u19,u20,u21,u22,u23,u24,u25,u26,u27,u28,u29,u30,u31,u32,u33,u34,u35,u36,u37,u38,u39,u40,u41,u42,u43,u44,u45,u46,u47,u48,u49],defers:=Ds.map mkD } ∧ Aside0 (SzI w l0 W i out vo Ds))
  (fun a _ => l0.length - (intOf (a.tmps.getD 13 undef)).toNat) ?_ ?_
 ·refine ⟨0,[],.slice none 0 0,[],_,_,_,_,_,_,_,_,_,_,_,_,_,_,_,_,_,_,_,_,_,_,_,_,_,_,_,_,_,_,_,_,_,_,_,_,_,_,_,_,_,_,rfl,⟨?_⟩⟩
  refine ⟨Nat.zero_le _,rfl,fun j h0 hj => by simp at hj; omega,rfl,?_,?_,?_,World.ownsRow_nil _ _ _ _,?_,List.nodup_nil,fun D hD => by cases hD⟩
  ·exact ((Boxed.new w 64 (.slice none 0 0)).alloc _).alloc _
  ·have:=(Boxed.new (w.alloc (.cells #[.slice none 0 0] 64)) 4 (.bool false)).alloc (.cells #[.slice none 0 0] 64)
   simpa using this
  ·have:=Boxed.new ((w.alloc (.cells #[.slice none 0 0] 64)).alloc (.cells #[.bool false] 4)) 64 (.slice none 0 0)
   simpa using this
  ·exact (((Below.refl _ _).alloc (Nat.le_refl _) _).alloc (by simp) _).alloc (by simp; omega) _
 ·rintro a W ⟨i,out,vo,Ds,u5,u6,u7,u8,u9,u10,u14,u15,u16,u17,u18,u19,u20,u21,u22,u23,u24,u25,u26,u27,u28,u29,u30,u31,u32,u33,u34,u35,u36,u37,u38,u39,u40,u41,u42,u43,u44,u45,u46,u47,u48,u49,rfl,HI⟩
  by_cases hlt : i < l0.length
  ·have hSB : w.heap.size + 2 < W.heap.size:=by have:=HI.out.b2.lt; omega
   obtain ⟨ad,A4,c4,e,k0,k1,k2,k3,k4,hl4,hC4⟩:=at_T66 (Kd.C_below HR.out HI.out.below) (i : Int) (by omega) (by omega)
   have HC4:=Aside0.mk hC4
   have HL4:=Aside0.mk hl4
   clear hC4 hl4
   cases e
   simp only [Int.toNat_natCast] at k0 k1 k2 k3 k4
   have hkn : (rd_T66 l0 (i : Int)).f4.length ≤ 9223372036854775807:=HC4.out.2.1
   gi_wp2_with (refine ⟨trivial,?_⟩; gi_at_call 121; refine (backward_in Fence.wide _ trivial rfl _ _ _ _).mono ?_; rintro e w' ⟨rfl,rfl⟩)
   generalize hnd : rd_T66 l0 (i : Int) = nd at *
   have HND:=Lib.hid hnd
   clear hnd
   obtain ⟨W2,hW2⟩ : ∃ W2,((((W.alloc (.cells #[.int .i64 nd.f0,.int .i64 nd.f1,.int .i64 nd.f2,.string nd.f3,.slice A4 nd.f4.length c4] 66)).alloc (.cells #[.int .i64 1] 3)).alloc (.cells #[.int .i64 ((i : Int) - 1)] 3)).alloc (.cells #[.slice A4 nd.f4.length c4] 64)) = W2:=⟨_,rfl⟩
   have hS2 : W2.heap.size = W.heap.size + 4:=by rw [← hW2]; simp
   have hbW : Below W.heap.size W W2:=by rw [← hW2]; exact ((((Below.refl _ _).alloc (Nat.le_refl _) _).alloc (by simp) _).alloc (by simp; omega) _).alloc (by simp; omega) _
   have hs1 : Boxed W2 (W.heap.size + 1) 3 (.int .i64 1):=by
    rw [← hW2]
    have:=((Boxed.new (W.alloc (.cells #[.int .i64 nd.f0,.int .i64 nd.f1,.int .i64 nd.f2,.string nd.f3,.slice A4 nd.f4.length c4] 66)) 3 (.int .i64 1)).alloc (.cells #[.int .i64 ((i : Int) - 1)] 3)).alloc (.cells #[.slice A4 nd.f4.length c4] 64)
    simpa using this
   have hs2 : Boxed W2 (W.heap.size + 2) 3 (.int .i64 ((i : Int) - 1)):=by
    rw [← hW2]
    have:=(Boxed.new ((W.alloc (.cells #[.int .i64 nd.f0,.int .i64 nd.f1,.int .i64 nd.f2,.string nd.f3,.slice A4 nd.f4.length c4] 66)).alloc (.cells #[.int .i64 1] 3)) 3 (.int .i64 ((i : Int) - 1))).alloc (.cells #[.slice A4 nd.f4.length c4] 64)
    simpa using this
   have hs3 : W2.cell? ⟨W.heap.size + 3,0,none⟩ = some (.slice A4 nd.f4.length c4):=by
    rw [← hW2]
    have:=(Boxed.new (((W.alloc (.cells #[.int .i64 nd.f0,.int .i64 nd.f1,.int .i64 nd.f2,.string nd.f3,.slice A4 nd.f4.length c4] 66)).alloc (.cells #[.int .i64 1] 3)).alloc (.cells #[.int .i64 ((i : Int) - 1)] 3)) 64 (.slice A4 nd.f4.length c4)).cell
    simpa using this
   rw [hW2]
   have hDlt : ∀ D,D ∈ Ds → D < W.heap.size:=fun D hm => (Array.getElem?_eq_some_iff.1 (HI.out.marks D hm).2).1
   have HD:=Lib.hid hDlt
   clear hDlt
   have hA4 : 0 < nd.f4.length → ∀ a',A4 = some a' → a'.block < W.heap.size + 4 ∧ ¬ (a'.block = W.heap.size + 1 ∨ a'.block = W.heap.size + 2):=by
    intro hp a' e
    obtain ⟨ad',e',hcell'⟩:=Kd.at_int HC4.out 0 (by omega) (by omega)
    rw [e] at e'
    cases e'
    have:=World.block_lt_of_cell? W _ hcell'
    rw [zBF] at this
    omega
   obtain ⟨Ao,co,hvo,hlc,hCo⟩:=Kd.R_reads (Kd.zDk (ok:=fun _ => True) (h1:=fun _ => rfl) (enc:=Value.int .i64) HI.out.row (fun _ _ => trivial))
   subst hvo
   have HCo:=Aside0.mk hCo
   clear hCo
   have hlen : (out.length : Int) = i:=by have:=HI.out.len; omega
   have HLEN:=Lib.hid hlen
   clear hlen
   refine wpIn_rangeFunc_ownF (F:=Fence.wide) rfl (by omega) (gf:=133) (lb:=#[.pointer (some ⟨W.heap.size + 3,0,none⟩)]) rfl trivial (enters_of Tryz.func133 (by kernel_rfl) rfl)
    (back_stops Fence.wide _ trivial rfl (by omega) (W.heap.size + 3) (W.heap.size + 4) c4 (fun k => k = W.heap.size + 1 ∨ k = W.heap.size + 2) A4 nd.f4 W2 (by omega) (by omega) (by omega) hA4 hs3 (Kd.C_below HC4.out hbW))
    KeepT.trans (fun X l o o' hl _ _ _ k hk ht => World.putObj_heap_other (by omega)) (Below.refl _ _) (fun _ => rfl)
    (SzIn w W W2 out i) (SzOut w out i Ds) (SzIn.own hS2 (by omega)) (SzOut.own (by omega) (fun D hm => by have:=HD.out D hm; omega))
    ⟨KeepT.refl _ _ _,HI.out.below.trans (hbW.mono (by omega)),1,(i : Int) - 1,rfl,by omega,by omega,by omega,hs1,hs2⟩
    (fun x => { tmps:=#[(.slice (some ad) l0.length c0),undef,(.pointer (some ⟨w.heap.size,0,none⟩)),(.pointer (some ⟨w.heap.size + 1,0,none⟩)),(.pointer (some ⟨w.heap.size + 2,0,none⟩)),(.int .i64 (i : Int)),(.pointer (some ⟨W.heap.size,0,none⟩)),(.pointer (some ⟨W.heap.size + 1,0,none⟩)),(.pointer (some ⟨W.heap.size + 2,0,none⟩)),u9,(.int .i64 x.2),(.slice (some ad) l0.length c0),(.int .i64 l0.length),(.int .i64 (i : Int)),(.bool true),(.int .i64 (i : Int)),(.pointer (some (ad.add (i * 5)))),(.agg #[.int .i64 nd.f0,.int .i64 nd.f1,.int .i64 nd.f2,.string nd.f3,.slice A4 nd.f4.length c4]),(.int .i64 (i : Int)),(.int .i64 ((i : Int) - 1)),(.pointer (some ⟨W.heap.size,4,none⟩)),(.slice A4 nd.f4.length c4),(.func (.func 133) #[] #[.pointer (some ⟨W.heap.size + 3,0,none⟩)]),(.int .i64 x.1),(.int .i64 x.2),u25,u26,u27,u28,u29,u30,u31,u32,u33,u34,u35,u36,u37,u38,u39,u40,u41,u42,u43,u44,u45,u46,u47,u48,u49],defers:=[] }) ?assign ?body ?done ?stop
   case assign =>
    intro l x X K hK
    gi_wp2
    exact hK
   case body =>
    rintro l pre x X hI _
    obtain ⟨s,la,hf1,hsl,hla0,hla1,hb1,hb2⟩:=hI.st
    have HF1:=Lib.hid hf1
    have HSL:=Lib.hid hsl
    have hs0 : 1 ≤ s:=by omega
    have hs9 : s ≤ (i : Int) + 1:=by omega
    clear hf1 hsl
    have keepB : ∀ k,k < W.heap.size → X.heap[k]? = W.heap[k]?:=fun k hk => (hI.keep k (by omega) (by omega)).trans (hbW.block k hk)
    have x0 : Boxed X w.heap.size 64 (.slice none 0 0):=(keepB _ (by omega)).trans HI.out.b0
    have x1 : Boxed X (w.heap.size + 1) 4 (.bool false):=(keepB _ (by omega)).trans HI.out.b1
    have x2 : Boxed X (w.heap.size + 2) 64 (.slice Ao out.length co):=(keepB _ (by omega)).trans HI.out.b2
    have c0:=x0.cell
    have f0:=x0.frozen
    have c1:=x1.cell
    have f1:=x1.frozen
    have c2:=x2.cell
    have cs:=hb1.cell
    have fs:=hb1.frozen
    have cl:=hb2.cell
    have fl:=hb2.frozen
    have HX:=Aside0.mk hI
    have HKB:=Lib.hid keepB
    have HDX:=Lib.hid (show ∀ D,D ∈ Ds → X.heap[D]? = some (.deferred (some [])) from fun D hm => (keepB D (HD.out D hm)).trans (HI.out.marks D hm).2)
    clear keepB
    by_cases hk : x.2 = la
    ·subst hk
     by_cases h0 : 0 ≤ x.2
     ·have hlx : x.2 < (out.length : Int):=by have:=HLEN.out; omega
      have hgd:=HI.out.good x.2 h0 hlx
      have hg1 : 1 ≤ rd out x.2:=hgd.1
      have hg2 : rd out x.2 ≤ x.2 + 1:=hgd.2
      clear hgd
      obtain ⟨g,hgA,hgS⟩ : ∃ g,Ao = some ⟨g,0,none⟩ ∧ g < W.heap.size:=by
       rcases HI.out.row.2 with ⟨_,hz⟩ | ⟨g,cap,cur,he,hbg,hg,_⟩
       ·omega
       ·injection he with he1 _ _
        exact ⟨g,he1,(Array.getElem?_eq_some_iff.1 hg).1⟩
      have hcX : X.cell? ⟨g,x.2.toNat,none⟩ = some (.int .i64 (rd out x.2)):=by
       obtain ⟨ado,e,hcell⟩:=Kd.at_int HCo.out x.2 h0 hlx
       rw [hgA] at e
       cases e
       have hadd : (⟨g,0,none⟩ : Addr).add x.2.toNat = ⟨g,x.2.toNat,none⟩:=by unfold Addr.add; split <;> simp_all
       rw [hadd] at hcell
       exact (World.cell?_of_block (HKB.out _ hgS)).trans hcell
      subst hgA
      have hmx : Tryz.prog.follows .mixedOrders = true:=by kernel_rfl
      gi_wp2
      gi_region_with_o (fail)
      all_goals gi_wp2
      all_goals exact SzIn.step hSB (by have:=HLEN.out; omega) HX.out HF1.out HSL.out h0 hla1 hg1 hg2 hb1 hb2
     ·have hd0 : decide (x.2 < 0) = true:=by simp; omega
      gi_wp2
      exact SzOut.step hSB HX.out HF1.out (fun hh => by have:=hh.2; omega) x0 x1 HDX.out
    ·have hb : (x.2 != la) = true:=by rw [bne_iff_ne]; exact hk
     gi_wp2
     exact SzOut.step hSB HX.out HF1.out (fun hh => hk hh.1) x0 x1 HDX.out
   case done =>
    rintro D ys X hD rfl hI hK
    obtain ⟨s,la,hf1,hsl,hla0,hla1,hb1,hb2⟩:=hI.st
    have hs0 : 1 ≤ s:=by omega
    have hs9 : s ≤ (i : Int) + 1:=by omega
    have hin : szInner out nd.f4.reverse 1 ((i : Int) - 1) = some s:=by rw [← revp_snd,zCg,hf1]; rfl
    have HIN:=Lib.hid hin
    clear hf1 hsl hin
    have hSX : W.heap.size + 4 ≤ X.heap.size:=by
     have h3 : X.heap[W.heap.size + 3]? = W2.heap[W.heap.size + 3]?:=hI.keep _ (by omega) (by omega)
     rw [Array.getElem?_eq_getElem (by omega : W.heap.size + 3 < W2.heap.size)] at h3
     have:=(Array.getElem?_eq_some_iff.1 h3).1
     omega
    have keepB : ∀ k,k < W.heap.size → X.heap[k]? = W.heap[k]?:=fun k hk => (hI.keep k (by omega) (by omega)).trans (hbW.block k hk)
    have x0 : Boxed X w.heap.size 64 (.slice none 0 0):=(keepB _ (by omega)).trans HI.out.b0
    have x1 : Boxed X (w.heap.size + 1) 4 (.bool false):=(keepB _ (by omega)).trans HI.out.b1
    have x2 : Boxed X (w.heap.size + 2) 64 (.slice Ao out.length co):=(keepB _ (by omega)).trans HI.out.b2
    have hrow : X.ownsRow w.heap.size 3 1 (.slice Ao out.length co) out.length (nums .i64 out):=zCj HI.out.row (fun k hk => keepB k (HI.out.row.lt k hk).2)
    have c2:=x2.cell
    have cs:=hb1.cell
    obtain ⟨i0,hi,hz0,hz1,hz2⟩:=info_parts info3
    have HX:=Aside0.mk hI
    have HKB:=Lib.hid keepB
    clear keepB
    gi_wp2_with (gi_at_builtin; refine wpListIn_append_own _ rfl _ _ 64 rfl w.heap.size 3 i0 (.int .i64 0) 1 8 Tryz.underlying64 hi hz0 hz1 hz2 rfl (by decide) _ _ _ rfl (hrow.alloc _) ⟨X.heap.size,0,none⟩ 1 1 [.int .i64 s] rfl rfl (cell_one_new _ _ _) (by simp [Value.oneCell']) (by have:=HLEN.out; simp only [maxLen]; omega) (by have:=HLEN.out; omega) (by simp; omega) ?_; intro v' w1 hown' hgrow _; obtain ⟨g',cap',rfl⟩:=ownsRow_succ hown'; obtain ⟨hv1,hv2,hr2,hk2,hb2'⟩:=x2.appended (n₀:=w.heap.size) (by decide) hrow (by omega) (by omega) hown' hgrow; have hc1:=hv1.cell; have hf1:=hv1.frozen)
    refine ⟨⟨i + 1,out ++ [s],.slice (some ⟨g',0,none⟩) (out.length + 1) cap',D :: Ds,?_⟩,?_⟩
    ·iterate 42 (apply Exists.intro)
     refine ⟨rfl,⟨?_⟩⟩
     have hlenN:=HI.out.len
     refine ⟨by omega,by simp [hlenN],szGood_snoc HI.out.good hs0 (by omega),?_,?_,?_,hv2,?_,hI.below.trans hb2',?_,?_⟩
     ·rw [HI.out.pure,List.drop_eq_getElem_cons hlt,szOuter]
      have e1 : l0[i] = nd:=by rw [← HND.out]; simp [rd_T66,hlt]
      rw [e1,hlenN,HIN.out]
     ·exact ((x0.alloc _).kept hgrow (x0.not_row (by decide) hrow)).kept (grownBy_setCell' _ (w.heap.size + 2) _) (by simp)
     ·exact ((x1.alloc _).kept hgrow (x1.not_row (by decide) hrow)).kept (grownBy_setCell' _ (w.heap.size + 2) _) (by simp)
     ·rw [nums_append,List.length_append,List.length_singleton]; exact hr2
     ·exact List.nodup_cons.2 ⟨fun hm => by have:=HD.out D hm; omega,HI.out.nodup⟩
     ·intro D' hm
      rcases List.mem_cons.1 hm with e | hm
      ·subst e; exact ⟨by omega,hk2.same _ _ hK rfl⟩
      ·exact ⟨(HI.out.marks D' hm).1,hk2.same _ _ ((HKB.out D' (HD.out D' hm)).trans (HI.out.marks D' hm).2) rfl⟩
    ·simp [intOf]; omega
   case stop =>
    rintro D c pre X hD ⟨k,hk,rfl⟩ hO hK
    obtain rfl:=hO.code
    have hr : r1 = [] ∧ r2 = false:=by
     have h:=H.out
     unfold zAT.f at h
     rw [if_pos hbnd,HI.out.pure,List.drop_eq_getElem_cons hlt,szOuter] at h
     have e1 : l0[i] = nd:=by rw [← HND.out]; simp [rd_T66,hlt]
     have e2 : szInner out nd.f4.reverse 1 ((i : Int) - 1) = none:=by
      rw [← revp_snd,zCg,← List.take_append_drop k (revp nd.f4),szFold_prefix_none _ _ _ _ _ hO.bad]; rfl
     rw [e1,HLEN.out,e2] at h
     simp at h
     exact ⟨h.1,h.2⟩
    obtain ⟨rfl,rfl⟩:=hr
    gi_wp2
    refine zBZ (D :: Ds) X (List.nodup_cons.2 ⟨fun hm => by have:=HD.out D hm; omega,HI.out.nodup⟩) (fun D' hm => ?_) (fun W' h1 h2 h3 h4 h5 => ?_)
    ·rcases List.mem_cons.1 hm with e | hm
     ·subst e; exact hK
     ·exact hO.marks D' hm
    ·have hnm : ∀ k v t,Boxed X k t v → W'.heap[k]? = X.heap[k]?:=fun k v t hb => h5 k (fun hm => by
      have hd : X.heap[k]? = some (.deferred (some [])):=by
       rcases List.mem_cons.1 hm with e | hm
       ·subst e; exact hK
       ·exact hO.marks k hm
      rw [show X.heap[k]? = _ from hb] at hd
      cases hd)
     have y0 : Boxed W' w.heap.size 64 (.slice none 0 0):=(hnm _ _ _ hO.b0).trans hO.b0
     have y1 : Boxed W' (w.heap.size + 1) 4 (.bool false):=(hnm _ _ _ hO.b1).trans hO.b1
     have q0:=y0.cell
     have q1:=y1.cell
     refine ⟨.tuple #[.slice none 0 0,.bool false],by simp [results,Tryz.f92,go_sem,q0,q1],.slice none 0 0,rfl,Kd.R_nil _ _ _ _ _,?_⟩
     have hb:=hO.below
     exact ⟨h1.trans hb.os,h2.trans hb.tape,h3.trans hb.output,by rw [h4]; exact hb.size,fun k hk => (h5 k (fun hm => by
      rcases List.mem_cons.1 hm with e | hm
      ·omega
      ·have:=(HI.out.marks k hm).1; omega)).trans (hb.block k hk)⟩
  ·have hie : i = l0.length:=by have:=HI.out.le; omega
   have hr : r1 = out ∧ r2 = true:=by
    have h:=H.out
    unfold zAT.f at h
    rw [if_pos hbnd,HI.out.pure,hie,List.drop_length,szOuter] at h
    simp at h
    exact ⟨h.1.symm,h.2⟩
   obtain ⟨rfl,rfl⟩:=hr
   have HIE:=Lib.hid hie
   clear hie
   have c0:=HI.out.b0.cell
   have f0:=HI.out.b0.frozen
   have c1:=HI.out.b1.cell
   have f1:=HI.out.b1.frozen
   have c2:=HI.out.b2.cell
   obtain ⟨Ao,co,hvo⟩ : ∃ A c,vo = .slice A r1.length c:=by
    rcases HI.out.row.2 with ⟨e,hz⟩ | ⟨g,cap,cur,e,_⟩
    ·exact ⟨none,0,by rw [e,hz]⟩
    ·exact ⟨_,_,e⟩
   subst hvo
   gi_wp2
   have HB:=HI.out
   refine zBZ Ds _ HI.out.nodup (fun D' hm => ?_) (fun W' h1 h2 h3 h4 h5 => ?_)
   ·have:=(HB.marks D' hm).2
    exact ((KeepsOthers.setCell _ _ _).trans (KeepsOthers.setCell _ _ _)).same _ _ this rfl
   ·obtain ⟨W1,hW1⟩ : ∃ W1,(W.setCell ⟨w.heap.size,0,none⟩ (.slice Ao r1.length co)).setCell ⟨w.heap.size + 1,0,none⟩ (.bool true) = W1:=⟨_,rfl⟩
    rw [hW1] at h1 h2 h3 h4 h5
    have z0 : Boxed W1 w.heap.size 64 (.slice Ao r1.length co):=by
     rw [← hW1]; exact (HB.b0.set _).kept (grownBy_setCell' _ (w.heap.size + 1) _) (by simp)
    have z1 : Boxed W1 (w.heap.size + 1) 4 (.bool true):=by
     rw [← hW1]; exact (HB.b1.kept (grownBy_setCell' W w.heap.size _) (by simp)).set _
    have zr : W1.ownsRow w.heap.size 3 1 (.slice Ao r1.length co) r1.length (nums .i64 r1):=by
     have hb0' : Boxed (W.setCell ⟨w.heap.size,0,none⟩ (.slice Ao r1.length co)) w.heap.size 64 (.slice Ao r1.length co):=HB.b0.set _
     have hr1:=HB.row.kept (grownBy_setCell' W w.heap.size (.slice Ao r1.length co)) (.inr (HB.b0.not_row (by decide) HB.row).symm)
     rw [← hW1]
     exact hr1.kept (grownBy_setCell' _ (w.heap.size + 1) _) (.inr ((HB.b1.kept (grownBy_setCell' W w.heap.size _) (by simp)).not_row (by decide) hr1).symm)
    have zb : Below w.heap.size w W1:=by
     rw [← hW1]; exact (HB.below.setCell (p:=⟨w.heap.size,0,none⟩) (Nat.le_refl _) _).setCell (p:=⟨w.heap.size + 1,0,none⟩) (by simp) _
    have zd : ∀ D,D ∈ Ds → W1.heap[D]? = some (.deferred (some [])):=fun D hm => by
     rw [← hW1]; exact ((KeepsOthers.setCell _ _ _).trans (KeepsOthers.setCell _ _ _)).same _ _ (HB.marks D hm).2 rfl
    have hnm : ∀ k (cs : Array Value) t,W1.heap[k]? = some (Obj.cells cs t (0,0)) → W'.heap[k]? = W1.heap[k]?:=fun k cs t hb => h5 k (fun hm => by
     have hd:=zd k hm
     rw [hb] at hd
     cases hd)
    have y0 : Boxed W' w.heap.size 64 (.slice Ao r1.length co):=(hnm _ _ _ z0).trans z0
    have y1 : Boxed W' (w.heap.size + 1) 4 (.bool true):=(hnm _ _ _ z1).trans z1
    have q0:=y0.cell
    have q1:=y1.cell
    refine ⟨.tuple #[.slice Ao r1.length co,.bool true],by simp [results,Tryz.f92,go_sem,q0,q1],_,rfl,?_,?_⟩
    ·refine Kd.zDk (h1:=fun _ => rfl) (zCj zr (fun k hk => ?_)) (fun _ _ => trivial)
     rcases zr.2 with ⟨e,_⟩ | ⟨g,cap,cur,e,_,hg,_⟩
     ·rw [e] at hk; simp [Value.ownBlock] at hk
     ·rw [e] at hk
      have : g = k:=by simpa [Value.ownBlock] using hk
      subst this
      exact hnm _ _ _ hg
    ·exact ⟨h1.trans zb.os,h2.trans zb.tape,h3.trans zb.output,by rw [h4]; exact zb.size,fun k hk => (h5 k (fun hm => by have:=(HB.marks k hm).1; omega)).trans (zb.block k hk)⟩
end Go.Proofs.YtkhlfdcjgooogaaGreat.P
