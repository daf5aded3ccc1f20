import Derived.Test.YtpggidmpkhmijaaWGuard
import Derived.Test.YtpggidmpkhmijaaProg
import Derived.Below
import Derived.Deep.Draws
import Derived.Deep.AppendLies
import Derived.Maps.AppendAt
import Derived.OwnWalk
import Derived.Laws.BytesArg
import Derived.Laws.MakeOwn
import Derived.Laws.OwnMore
import Derived.Deep.OwnRows
import Derived.Tactics
import Derived.Lib.ConvBytes
import Derived.Laws.Slices
import Derived.WalkKit
import Derived.KernelRfl
import Derived.RowKit3
import Derived.Deep.LoopGhost
import Derived.Deep.QuietTactic
import Derived.BigQuiet
import Derived.WideLaws
import Derived.Deep.DeepCutAuto
import Derived.Deep.CutBlock
import Derived.Deep.RegionHeld3
import Derived.Laws.Rows
import Derived.Lib.AppendStr
import Derived.ArgAppend
import Derived.Laws.IdiomCopy
import Derived.OrdersHeld
import Derived.Laws.BitsLemmas
import Derived.RowKit
import Derived.Test.YtpggidmpkhmijaaWWords
import Derived.Laws.StructEq
import Derived.Test.YtpggidmpkhmijaaWMore
import Derived.Lib.Hide
import Derived.RangeFuncBox
import Derived.RangeFuncFrom
import Derived.RangeFuncLeaves
import Derived.Shelf.Abstract
import Derived.OwnWalkIn
import Derived.TacticsInMore
import Derived.LoopNIn
import Derived.LoopIn
import Derived.Outline
import Derived.Shelf.RegionOpen
import Derived.RangeFuncCalls
set_option linter.unusedVariables false
set_option linter.unusedSimpArgs false
namespace Go.Proofs.YtpggidmpkhmijaaW.PrintWords
open Go.RowKit
namespace Kd
section
variable {P : Program} {ops : Array Oper} {rest : List Oper} {o : Oper} {a : Act} {Q : Exit → Act → World → Prop}
variable {α : Type}
theorem R_make0 (d : Kd α) {w0 W : World} (base e : Nat) (hgd : o.guard = none) {N : Tmp} (_hd : o.dst = some N) (t : TypeId) (x y : Operand) (ho : o.op = .makeSlice t x y) (n : Int) (hx : a.eval x = .int .i64 0) (hy : a.eval y = .int .i64 n)
  (ht : P.underlying t = some (.slice e)) (z : Value) (bytes : Nat) (hinfo : (P.info? e).map (fun i => (i.zero,i.size,i.bytes)) = some (some z,d.sz,bytes)) (hz : z.cells.size = d.sz) (hs0 : 0 < d.sz) (hb0 : 0 < bytes)
  {ok : Nat → Prop} (hfresh : ok W.heap.size) (h0 : 0 ≤ n) (hl : n.toNat * bytes ≤ 281474976710656) (HB : Below base w0 W) (hbase : base ≤ W.heap.size)
  (h : ∀ v1 w1,d.R e w1 base ok v1 ([] : List α) → Below base w0 w1 → W.grownBy w1 none → (∃ b,v1.ownBlock = some b ∧ W.heap.size ≤ b) → wpList P ops Q rest (a.put o.dst v1) w1) : wpList P ops Q (o :: rest) a W:=by
 obtain ⟨m,rfl⟩:=Int.eq_ofNat_of_zero_le h0
 simp only [Int.toNat_natCast] at hl h
 obtain ⟨i0,hi,hzz⟩:=Option.map_eq_some_iff.1 hinfo
 simp only [Prod.mk.injEq] at hzz
 obtain ⟨hz0,hz1,hz2⟩:=hzz
 have hm : m ≤ 281474976710656:=Nat.le_trans (Nat.le_mul_of_pos_right _ hb0) hl
 have hr:=run_make (P:=P) W t e i0 z ht hi hz0 .i64 .i64 (0 : Int) (m : Int) (by omega) (by omega)
  (by
   have h3 : ((i0.bytes * m : Nat) : Int) ≤ 281474976710656:=by rw [hz2,Nat.mul_comm]; omega
   rwa [Int.natCast_mul] at h3) (by omega)
 simp only [Int.toNat_natCast] at hr
 rw [hz1] at hr
 have hcur : (madeCells z.cells (m * d.sz)).size = m * d.sz:=by simp [size_madeCells]
 refine zCs hgd (v:=.slice (some ⟨W.heap.size,0,none⟩) 0 m) (w1:=W.alloc (.cells (madeCells z.cells (m * d.sz)) e)) ?_ (h _ _ ⟨fun k hk => ?_,[],?_,Reps.none _ _⟩ (HB.alloc hbase _) (World.grownBy_alloc W _ none) ⟨W.heap.size,by simp [Value.ownBlock],Nat.le_refl _⟩)
 ·simp [execOp,ho,hx,hy,hr]
 ·have : W.heap.size = k:=by simpa [Value.ownBlock] using hk
  subst this
  exact hfresh
 ·exact World.ownsRow_made W _ m hbase (by simp only [maxLen]; omega) hcur
end
end Kd
end Go.Proofs.YtpggidmpkhmijaaW.PrintWords
namespace Go.Proofs.Ytpggidmpkhmijaa.P
open Go.RowKit Go.Proofs.YtpggidmpkhmijaaW.PrintWords Go.Proofs.YtpggidmpkhmijaaW.PrintLast Go.Proofs.YtpggidmpkhmijaaW.PrintMore
attribute [local go_sem] zBa zAY max_two min_two zAR zAT zAZ zAX
def errW : Option Int → Value
 | none => .nilIface
 | some c => .iface 0 (.int .i64 c)
theorem zAo : errW none = .nilIface:=rfl
theorem zAn (c : Int) : errW (some c) = .iface 0 (.int .i64 c):=rfl
theorem info3 : (Try.prog.info? 3).map (fun i => (i.zero,i.size,i.bytes)) = some (some (.int .i64 0),1,8):=by kernel_rfl
theorem info24 : (Try.prog.info? 24).map (fun i => (i.zero,i.size,i.bytes)) = some (some (.agg #[(.int .i64 0),(.int .i64 0),(.int .i64 0),(.string ⟨#[]⟩),(.slice none 0 0)]),5,64):=by kernel_rfl
structure S24 where
 f0 : Int
 f1 : Int
 f2 : Int
 f3 : ByteArray
 f4 : (List Int)
def z24 : S24:=⟨(0 : Int),(0 : Int),(0 : Int),(⟨#[]⟩ : ByteArray),([] : List Int)⟩
def k24 : Kd S24:=Kd.iso (Kd.pair (Kd.int .i64) (Kd.pair (Kd.int .i64) (Kd.pair (Kd.int .i64) (Kd.pair Kd.string (Kd.slice 3 (Kd.int .i64)))))) (fun x : S24 => (x.f0,x.f1,x.f2,x.f3,x.f4))
theorem k24_open {w : World} {x : S24} {cs : List Value} (h : k24.K w x cs) : ∃ A4 c4,cs = [.int .i64 x.f0,.int .i64 x.f1,.int .i64 x.f2,.string x.f3,.slice A4 x.f4.length c4] ∧ x.f4.length ≤ c4 ∧ (Kd.int .i64).C w A4 x.f4.length x.f4:=by
 obtain ⟨_,_,rfl,rfl,⟨_,_,rfl,rfl,⟨_,_,rfl,rfl,⟨_,_,rfl,rfl,⟨A4,c4,rfl,l4,g4⟩⟩⟩⟩⟩:=h
 exact ⟨A4,c4,rfl,l4,g4⟩
theorem k24_mkM (w : World) (base : Nat) (ok : Nat → Prop) (x : S24) {v4 : Value} (g4 : (Kd.int .i64).R 3 w base ok v4 x.f4) : k24.M w base ok x [.int .i64 x.f0,.int .i64 x.f1,.int .i64 x.f2,.string x.f3,v4]:=⟨[.int .i64 x.f0],[.int .i64 x.f1,.int .i64 x.f2,.string x.f3,v4],rfl,rfl,⟨[.int .i64 x.f1],[.int .i64 x.f2,.string x.f3,v4],rfl,rfl,⟨[.int .i64 x.f2],[.string x.f3,v4],rfl,rfl,⟨[.string x.f3],[v4],rfl,rfl,⟨v4,rfl,g4⟩⟩⟩⟩⟩
def rd_T24 (xs : List S24) (i : Int) : S24:=xs.getD i.toNat z24
theorem at_T24 {w : World} {A : Option Addr} {n : Nat} {xs : List S24} (h : Kd.C k24 w A n xs) (i : Int) (h0 : 0 ≤ i) (h1 : i < n) : ∃ ad A4 c4,A = some ad ∧ w.cell? (ad.add (i.toNat * 5)) = some (.int .i64 (rd_T24 xs i).f0) ∧ w.cell? ⟨(ad.add (i.toNat * 5)).block,(ad.add (i.toNat * 5)).off + 1,none⟩ = some (.int .i64 (rd_T24 xs i).f1) ∧ w.cell? ⟨(ad.add (i.toNat * 5)).block,(ad.add (i.toNat * 5)).off + 2,none⟩ = some (.int .i64 (rd_T24 xs i).f2) ∧ w.cell? ⟨(ad.add (i.toNat * 5)).block,(ad.add (i.toNat * 5)).off + 3,none⟩ = some (.string (rd_T24 xs i).f3) ∧ w.cell? ⟨(ad.add (i.toNat * 5)).block,(ad.add (i.toNat * 5)).off + 4,none⟩ = some (.slice A4 (rd_T24 xs i).f4.length c4) ∧ (rd_T24 xs i).f4.length ≤ c4 ∧ (Kd.int .i64).C w A4 (rd_T24 xs i).f4.length (rd_T24 xs i).f4:=by
 obtain ⟨ad,c,e,_,hK,hc0⟩:=Kd.C_get h z24 i h0 h1
 have hc : ∀ j u,c[j]? = some u → w.cell? (ad.add (i.toNat * 5 + j)) = some u:=hc0
 obtain ⟨A4,c4,rfl,l4,g4⟩:=k24_open hK
 exact ⟨ad,A4,c4,e,hc 0 _ rfl,by rw [← zBV _ _ 1 (by omega)]; exact hc 1 _ rfl,by rw [← zBV _ _ 2 (by omega)]; exact hc 2 _ rfl,by rw [← zBV _ _ 3 (by omega)]; exact hc 3 _ rfl,by rw [← zBV _ _ 4 (by omega)]; exact hc 4 _ rfl,l4,g4⟩
structure S30 where
 f0 : (List S24)
 f1 : Int
def z30 : S30:=⟨([] : List S24),(0 : Int)⟩
def k30 : Kd S30:=Kd.iso (Kd.pair (Kd.slice 24 k24) (Kd.int .i64)) (fun x : S30 => (x.f0,x.f1))
theorem k30_open {w : World} {x : S30} {cs : List Value} (h : k30.K w x cs) : ∃ A0 c0,cs = [.slice A0 x.f0.length c0,.int .i64 x.f1] ∧ x.f0.length ≤ c0 ∧ k24.C w A0 x.f0.length x.f0:=by
 obtain ⟨_,_,rfl,⟨A0,c0,rfl,l0,g0⟩,rfl⟩:=h
 exact ⟨A0,c0,rfl,l0,g0⟩
theorem k30_mk (w : World) (x : S30) {A0 : Option Addr} {c0 : Nat} (l0 : x.f0.length ≤ c0) (g0 : k24.C w A0 x.f0.length x.f0) : k30.K w x [.slice A0 x.f0.length c0,.int .i64 x.f1]:=⟨[.slice A0 x.f0.length c0],[.int .i64 x.f1],rfl,⟨A0,c0,rfl,l0,g0⟩,rfl⟩
def rd_T30 (xs : List S30) (i : Int) : S30:=xs.getD i.toNat z30
theorem at_T30 {w : World} {A : Option Addr} {n : Nat} {xs : List S30} (h : Kd.C k30 w A n xs) (i : Int) (h0 : 0 ≤ i) (h1 : i < n) : ∃ ad A0 c0,A = some ad ∧ w.cell? (ad.add (i.toNat * 2)) = some (.slice A0 (rd_T30 xs i).f0.length c0) ∧ w.cell? ⟨(ad.add (i.toNat * 2)).block,(ad.add (i.toNat * 2)).off + 1,none⟩ = some (.int .i64 (rd_T30 xs i).f1) ∧ (rd_T30 xs i).f0.length ≤ c0 ∧ k24.C w A0 (rd_T30 xs i).f0.length (rd_T30 xs i).f0:=by
 obtain ⟨ad,c,e,_,hK,hc0⟩:=Kd.C_get h z30 i h0 h1
 have hc : ∀ j u,c[j]? = some u → w.cell? (ad.add (i.toNat * 2 + j)) = some u:=hc0
 obtain ⟨A0,c0,rfl,l0,g0⟩:=k30_open hK
 exact ⟨ad,A0,c0,e,hc 0 _ rfl,by rw [← zBV _ _ 1 (by omega)]; exact hc 1 _ rfl,l0,g0⟩
open Go.RowKit Go.Shelf Go.Proofs.YtpggidmpkhmijaaW.PrintWords Go.Proofs.YtpggidmpkhmijaaW.PrintLast Go.Proofs.YtpggidmpkhmijaaW.PrintMore
attribute [local go_sem] Oper.semAt_some
theorem zAj (a : Addr) (n : Nat) : (a.add n).block = a.block:=by unfold Addr.add; split <;> rfl
def revp (zs : List Int) : List (Int × Int):=(List.range zs.length).map fun (j : Nat) => ((zs.length : Int) - 1 - (j : Int),rd zs ((zs.length : Int) - 1 - (j : Int)))
theorem zBQ (zs : List Int) : (revp zs).length = zs.length:=by simp [revp]
theorem revp_take_succ (zs : List Int) (j : Nat) (h : j < zs.length) : (revp zs).take (j + 1) = (revp zs).take j ++ [((zs.length : Int) - 1 - j,rd zs ((zs.length : Int) - 1 - j))]:=by
 rw [List.take_succ_eq_append_getElem (by rw [zBQ]; exact h)]
 simp [revp]
def KeepT (M : Nat) (T : Nat → Prop) (W W' : World) : Prop:=∀ k,k < M → ¬ T k → W'.heap[k]? = W.heap[k]?
theorem KeepT.refl (M : Nat) (T : Nat → Prop) (W : World) : KeepT M T W W:=fun _ _ _ => rfl
theorem KeepT.trans {M : Nat} {T : Nat → Prop} {A B C : World} (h : KeepT M T A B) (k : KeepT M T B C) : KeepT M T A C:=fun i hi ht => (k i hi ht).trans (h i hi ht)
theorem KeepT.cell {M : Nat} {T : Nat → Prop} {A B : World} (h : KeepT M T A B) {p : Addr} (hp : p.block < M) (ht : ¬ T p.block) : B.cell? p = A.cell? p:=World.cell?_of_block (h _ hp ht)
set_option maxRecDepth 100000 in
set_option maxHeartbeats 2000000 in
theorem back1 (F : Fence) (n : Nat) (h50 : F.fn 50) (hro : F.round = none) (hn : 1 ≤ n) (l Bs M cap : Nat) (T : Nat → Prop) (A : Option Addr) (zs : List Int) (hb : Bs < M) (hbT : ¬ T Bs)
  (hA : 0 < zs.length → ∀ ad,A = some ad → ad.block < M ∧ ¬ T ad.block) (J Jx : List (Int × Int) → World → Prop)
  (hY : ∀ pre x W,J pre W → pre.length < zs.length → YieldAt F (n - 1) Try.prog l #[.int .i64 x.1,.int .i64 x.2] W fun e W' =>
   (e = .returned (.bool true) ∧ J (pre ++ [x]) W' ∧ KeepT M T W W') ∨ (e = .returned (.bool false) ∧ Jx (pre ++ [x]) W'))
  (W : World) (hBs : W.cell? ⟨Bs,0,none⟩ = some (.slice A zs.length cap)) (hC : Kd.C (Kd.int .i64) W A zs.length zs) (h0 : J [] W) :
  CallsIn F n Try.prog 50 #[.func (.yield l) #[] #[],.pointer (some ⟨Bs,0,none⟩)] W fun e W' => (∃ v,e = .returned v) ∧
   ((∃ ys,ys = revp zs ∧ J ys W') ∨ (∃ pre,(∃ k,k ≤ zs.length ∧ pre = (revp zs).take k) ∧ Jx pre W')):=by
 have hbnd : zs.length ≤ 9223372036854775807:=hC.2.1
 have HY:=Lib.hid hY
 have HC:=Aside0.mk hC
 have HA:=Lib.hid hA
 clear hY hC hA
 refine callsIn_of_wp Try.func50 rfl h50 ?_ hro
 simp only [Try.ntmps50,List.size_toArray,List.length_cons,List.length_nil,Nat.reduceAdd,Nat.reduceSub,Array.replicate_succ,Array.replicate_zero,List.push_toArray,List.append_toArray,List.nil_append,List.cons_append]
 gi_wp2
 gi_loopw [3] (fun v3 wr => ∃ (j : Nat) (i : Int),v3 = .int .i64 i ∧ Hid (i + j + 1 = zs.length) ∧ -1 ≤ i ∧ i < zs.length ∧ Aside0 (J ((revp zs).take j) wr) ∧ Aside0 (KeepT M T W wr)) (fun v3 _ => (intOf v3 + 1).toNat)
 case atStart => exact ⟨0,(zs.length : Int) - 1,by go_num,by simp [Hid],by omega,by omega,⟨by simpa using h0⟩,⟨KeepT.refl _ _ _⟩⟩
 case round =>
  obtain ⟨j,i,rfl,hij,hi1,hi2,HJ,HK⟩:=hrel
  have hBs' : wr.cell? ⟨Bs,0,none⟩ = some (.slice A zs.length cap):=(HK.out.cell (p:=⟨Bs,0,none⟩) hb hbT).trans hBs
  by_cases h0i : 0 ≤ i
  ·have hjl : j < zs.length:=by have:=hij; unfold Hid at this; omega
   have hie : ((zs.length : Int) - 1 - j) = i:=by have:=hij; unfold Hid at this; omega
   obtain ⟨ad,e,hcell⟩:=Kd.at_int HC.out i h0i hi2
   have hcell' : wr.cell? (ad.add i.toNat) = some (.int .i64 (rd zs i)):=(HK.out.cell (p:=ad.add i.toNat) (by rw [zAj]; exact (HA (by omega) _ e).1) (by rw [zAj]; exact (HA (by omega) _ e).2)).trans hcell
   have hs:=revp_take_succ zs j hjl
   rw [hie] at hs
   have HS:=Lib.hid hs
   cases e
   clear hs hie hcell
   obtain ⟨fn,tmps,assign,body,hy,hR⟩:=HY _ (i,rd zs i) wr HJ.out (by rw [List.length_take,zBQ]; omega)
   dsimp only at hy
   gi_wp2
   refine hR.mono ?_
   rintro e W3 (⟨rfl,hJ3,hk3⟩ | ⟨rfl,hJx3⟩)
   ·have HJ3:=Aside0.mk hJ3
    have HK3:=Aside0.mk (HK.out.trans hk3)
    clear hJ3 hk3
    gi_wp2
    go_roundw
    case rel => exact ⟨j + 1,i - 1,by go_num,by have:=hij; unfold Hid at this ⊢; omega,by omega,by omega,⟨by rw [HS.out]; exact HJ3.out⟩,HK3⟩
    case measure => simp [intOf]; omega
   ·have HJx3:=Aside0.mk hJx3
    clear hJx3
    gi_wp2
    refine bodyPost_ret (results_none rfl _ _ _) rfl ?_
    exact ⟨⟨_,rfl⟩,.inr ⟨_,⟨j + 1,by omega,HS.out.symm⟩,HJx3.out⟩⟩
  ·have hje : j = zs.length:=by have:=hij; unfold Hid at this; omega
   have HJ':=HJ.out
   rw [hje,show zs.length = (revp zs).length from (zBQ zs).symm,List.take_length] at HJ'
   have HJ2:=Aside0.mk HJ'
   clear HJ' hje
   gi_wp2
   go_end0
   exact ⟨⟨_,rfl⟩,.inl HJ2.out⟩
theorem back_stops (F : Fence) (n : Nat) (h50 : F.fn 50) (hro : F.round = none) (hn : 1 ≤ n) (Bs M cap : Nat) (T : Nat → Prop) (A : Option Addr) (zs : List Int) (w : World) (hBs : Bs < w.heap.size)
  (hb : Bs < M) (hbT : ¬ T Bs) (hA : 0 < zs.length → ∀ ad,A = some ad → ad.block < M ∧ ¬ T ad.block) (hc : w.cell? ⟨Bs,0,none⟩ = some (.slice A zs.length cap)) (hC : Kd.C (Kd.int .i64) w A zs.length zs) :
  SeqStopsK F n Try.prog 50 #[.pointer (some ⟨Bs,0,none⟩)] (fun x : Int × Int => #[Value.int .i64 x.1,Value.int .i64 x.2]) (KeepT M T) (fun ys => ys = revp zs) (fun pre => ∃ k,k ≤ zs.length ∧ pre = (revp zs).take k) zs.length w :=
 fun l J Jx W hW _ _ hY h0 => back1 F n h50 hro hn l Bs M cap T A zs hb hbT hA J Jx hY W ((hW.cell (p:=⟨Bs,0,none⟩) hBs).trans hc) (Kd.C_below hC hW) h0
set_option maxHeartbeats 1000000 in
theorem backward_in (F : Fence) (n : Nat) (h36 : F.fn 36) (hro : F.round = none) (a : Option Addr) (len cap : Nat) (w : World) :
  CallsIn F n Try.prog 36 #[.slice a len cap] w fun e w' => e = .returned (.func (.func 50) #[] #[.pointer (some ⟨w.heap.size,0,none⟩)]) ∧ w' = w.alloc (.cells #[.slice a len cap] 22):=by
 refine callsIn_of_wp Try.func36 rfl h36 ?_ hro
 simp only [Try.ntmps36,List.size_toArray,List.length_cons,List.length_nil,Nat.reduceAdd,Nat.reduceSub,Array.replicate_succ,Array.replicate_zero,List.push_toArray,List.append_toArray,List.nil_append,List.cons_append]
 gi_wp2
 go_ret
 exact ⟨rfl,rfl⟩
def szInner (out : List Int) : List Int → Int → Int → Option Int
 | [],s,_ => some s
 | k :: ks,s,la => if k = la ∧ 0 ≤ k then szInner out ks (s + rd out k) (k - rd out k) else none
def szOuter : List S24 → List Int → Option (List Int)
 | [],out => some out
 | n :: ns,out => match szInner out n.f4.reverse 1 ((out.length : Int) - 1) with
  | none => none
  | some s => szOuter ns (out ++ [s])
def zBf.f (l0 : List S24) : Option (List Int × Bool) :=
 if l0.length < 17592186044416 then some (match szOuter l0 [] with | some o => (o,true) | none => ([],false)) else none
def szGood (out : List Int) : Prop:=∀ j,0 ≤ j → j < (out.length : Int) → 1 ≤ rd out j ∧ rd out j ≤ j + 1
def szFold (out : List Int) : List (Int × Int) → Int → Int → Option (Int × Int)
 | [],s,la => some (s,la)
 | x :: xs,s,la => if x.2 = la ∧ 0 ≤ x.2 then szFold out xs (s + rd out x.2) (x.2 - rd out x.2) else none
theorem zBZ (out : List Int) (x : Int × Int) : ∀ (xs : List (Int × Int)) (s la : Int),szFold out (xs ++ [x]) s la = (szFold out xs s la).bind fun p => if x.2 = p.2 ∧ 0 ≤ x.2 then some (p.1 + rd out x.2,x.2 - rd out x.2) else none
 | [],s,la => by simp [szFold]
 | y :: ys,s,la => by
  simp only [List.cons_append,szFold]
  split
  ·exact zBZ out x ys _ _
  ·rfl
theorem szFold_prefix_none (out : List Int) : ∀ (xs ys : List (Int × Int)) (s la : Int),szFold out xs s la = none → szFold out (xs ++ ys) s la = none
 | [],ys,s,la,h => by simp [szFold] at h
 | x :: xs,ys,s,la,h => by
  simp only [List.cons_append,szFold] at h ⊢
  split
  ·rename_i hc; rw [if_pos hc] at h; exact szFold_prefix_none out xs ys _ _ h
  ·rfl
theorem zBU (out : List Int) : ∀ (xs : List (Int × Int)) (s la : Int),szInner out (xs.map Prod.snd) s la = (szFold out xs s la).map Prod.fst
 | [],s,la => rfl
 | x :: xs,s,la => by
  simp only [List.map_cons,szInner,szFold]
  split
  ·exact zBU out xs _ _
  ·rfl
theorem revp_snd (zs : List Int) : (revp zs).map Prod.snd = zs.reverse:=by
 apply List.ext_getElem
 ·simp [revp]
 ·intro i h1 h2
  simp only [List.length_map,zBQ] at h1
  simp only [revp,List.map_map,List.getElem_map,List.getElem_range,Function.comp,List.getElem_reverse]
  have h3 : ((zs.length : Int) - 1 - i).toNat = zs.length - 1 - i:=by omega
  simp only [rd,h3]
  rw [List.getD_eq_getElem?_getD,List.getElem?_eq_getElem (by omega)]
  rfl
theorem szGood_snoc {out : List Int} (h : szGood out) {s : Int} (h1 : 1 ≤ s) (h2 : s ≤ (out.length : Int) + 1) : szGood (out ++ [s]):=by
 intro j h0 hj
 rw [List.length_append,List.length_singleton] at hj
 by_cases hlt : j < (out.length : Int)
 ·have h3 : rd (out ++ [s]) j = rd out j:=by
   unfold rd
   rw [List.getD_eq_getElem?_getD,List.getD_eq_getElem?_getD,List.getElem?_append_left (by omega)]
  rw [h3]
  exact h j h0 hlt
 ·have hj' : j = (out.length : Int):=by omega
  subst hj'
  have h3 : rd (out ++ [s]) (out.length : Int) = s:=by
   unfold rd
   rw [List.getD_eq_getElem?_getD,List.getElem?_append_right (by omega)]
   simp
  rw [h3]
  omega
def mkD (D : Nat) : Deferred:={ target:=.collected D,args:=#[] }
theorem zBT {F : Fence} {n : Nat} {P : Program} {fn : Func} {tmps : Array Value} {R : Ending → World → Prop} : ∀ (Ds : List Nat) (W : World),Ds.Nodup → (∀ D,D ∈ Ds → W.heap[D]? = some (.deferred (some []))) →
  (∀ W' : World,W'.os = W.os → W'.tape = W.tape → W'.output = W.output → W'.heap.size = W.heap.size → (∀ k,k ∉ Ds → W'.heap[k]? = W.heap[k]?) → LeavesInM F n P fn tmps R [] .returning W') →
  LeavesInM F n P fn tmps R (Ds.map mkD) .returning W
 | [],W,_,_,h => h W rfl rfl rfl rfl (fun _ _ => rfl)
 | D :: Ds,W,hn,hD,h => by
  have hD0:=hD D List.mem_cons_self
  refine ⟨by simp,.inl ⟨D,_,rfl,run_takeDeferred hD0,?_⟩⟩
  have hlt : D < W.heap.size:=(Array.getElem?_eq_some_iff.1 hD0).1
  have hn1:=List.nodup_cons.1 hn
  refine zBT Ds _ hn1.2 (fun D' hm => ?_) (fun W' h1 h2 h3 h4 h5 => h W' h1 h2 h3 (h4.trans (by simp)) (fun k hk => ?_))
  ·rw [World.putObj_heap_other (fun e => hn1.1 (by rw [← e]; exact hm))]
   exact hD D' (List.mem_cons_of_mem _ hm)
  ·rw [h5 k (fun hm => hk (List.mem_cons_of_mem _ hm))]
   exact World.putObj_heap_other (fun e => hk (by rw [e]; exact List.mem_cons_self))
structure SzI (w : World) (l0 : List S24) (W : World) (i : Nat) (out : List Int) (vo : Value) (Ds : List Nat) : Prop where
 le : i ≤ l0.length
 len : out.length = i
 good : szGood out
 pure : szOuter l0 [] = szOuter (l0.drop i) out
 b0 : Boxed W w.heap.size 22 (.slice none 0 0)
 b1 : Boxed W (w.heap.size + 1) 4 (.bool false)
 b2 : Boxed W (w.heap.size + 2) 22 vo
 row : W.ownsRow w.heap.size 3 1 vo out.length (nums .i64 out)
 below : Below w.heap.size w W
 nodup : Ds.Nodup
 marks : ∀ D,D ∈ Ds → w.heap.size ≤ D ∧ W.heap[D]? = some (.deferred (some []))
structure SzIn (w W W2 : World) (out : List Int) (i : Int) (pre : List (Int × Int)) (W' : World) : Prop where
 keep : KeepT (W.heap.size + 4) (fun k => k = W.heap.size + 1 ∨ k = W.heap.size + 2) W2 W'
 below : Below w.heap.size w W'
 st : ∃ s la,szFold out pre 1 (i - 1) = some (s,la) ∧ s + la = i ∧ -1 ≤ la ∧ la ≤ i - 1 ∧ Boxed W' (W.heap.size + 1) 3 (.int .i64 s) ∧ Boxed W' (W.heap.size + 2) 3 (.int .i64 la)
structure SzOut (w : World) (out : List Int) (i : Int) (Ds : List Nat) (c : Code) (pre : List (Int × Int)) (W' : World) : Prop where
 code : c = .ret
 bad : szFold out pre 1 (i - 1) = none
 b0 : Boxed W' w.heap.size 22 (.slice none 0 0)
 b1 : Boxed W' (w.heap.size + 1) 4 (.bool false)
 below : Below w.heap.size w W'
 marks : ∀ D,D ∈ Ds → W'.heap[D]? = some (.deferred (some []))
theorem KeepT.own {M : Nat} {T : Nat → Prop} {W2 X Y : World} {row : Option Nat} (h : KeepT M T W2 X) (hM : M ≤ W2.heap.size) (hg : X.grownBy Y row) (hr : ∀ r,row = some r → M ≤ r) : KeepT M T W2 Y:=fun k hk ht => by
 have h1:=h k hk ht
 have hlt : k < X.heap.size:=by
  have h2 : W2.heap[k]? = some (W2.heap[k]'(by omega)):=Array.getElem?_eq_getElem (by omega)
  exact (Array.getElem?_eq_some_iff.1 (h1.trans h2)).1
 exact (hg.block k hlt (fun e => by have:=hr k e.symm; omega)).trans h1
theorem SzIn.own {w W W2 : World} {out : List Int} {i : Int} (hS : W2.heap.size = W.heap.size + 4) (hw : w.heap.size ≤ W2.heap.size) : OwnFrom W2.heap.size (SzIn w W W2 out i):=fun pre X Y row h hg hr => by
 obtain ⟨s,la,h1,h2,h3,h4,h5,h6⟩:=h.st
 refine ⟨h.keep.own (by omega) hg (fun r e => by have:=(hr r e).1; omega),h.below.grown hg h.below.size (fun k e => by have:=(hr k e).1; omega),s,la,h1,h2,h3,h4,h5.kept hg (fun e => ?_),h6.kept hg (fun e => ?_)⟩
 ·have:=(hr _ e.symm).1; omega
 ·have:=(hr _ e.symm).1; omega
theorem SzOut.own {w W2 : World} {out : List Int} {i : Int} {Ds : List Nat} (hS : w.heap.size + 2 ≤ W2.heap.size) (hD : ∀ D,D ∈ Ds → D < W2.heap.size) (c : Code) : OwnFrom W2.heap.size (SzOut w out i Ds c):=fun pre X Y row h hg hr =>
 ⟨h.code,h.bad,h.b0.kept hg (fun e => by have:=(hr _ e.symm).1; omega),h.b1.kept hg (fun e => by have:=(hr _ e.symm).1; omega),h.below.grown hg h.below.size (fun k e => by have:=(hr k e).1; omega),
  fun D hm => (hg.block D (Array.getElem?_eq_some_iff.1 (h.marks D hm)).1 (fun e => by have:=(hr _ e.symm).1; have:=hD D hm; omega)).trans (h.marks D hm)⟩
theorem SzIn.step {w W W2 X : World} {out : List Int} {i : Int} {pre : List (Int × Int)} {x : Int × Int} {s : Int} (hS : w.heap.size + 2 < W.heap.size) (hi : i ≤ (out.length : Int)) (h : SzIn w W W2 out i pre X) (hf : szFold out pre 1 (i - 1) = some (s,x.2)) (hsl : s + x.2 = i)
  (h0 : 0 ≤ x.2) (hl : x.2 ≤ i - 1) (hg1 : 1 ≤ rd out x.2) (hg2 : rd out x.2 ≤ x.2 + 1) (b1 : Boxed X (W.heap.size + 1) 3 (.int .i64 s)) (b2 : Boxed X (W.heap.size + 2) 3 (.int .i64 x.2)) :
  KeepsOthers X ((X.setCell ⟨W.heap.size + 1,0,none⟩ (.int .i64 (s + rd out x.2))).setCell ⟨W.heap.size + 2,0,none⟩ (.int .i64 (x.2 - rd out x.2))).drew ∧
  KeepT (W.heap.size + 4) (fun k => k = W.heap.size + 1 ∨ k = W.heap.size + 2) X ((X.setCell ⟨W.heap.size + 1,0,none⟩ (.int .i64 (s + rd out x.2))).setCell ⟨W.heap.size + 2,0,none⟩ (.int .i64 (x.2 - rd out x.2))).drew ∧
  SzIn w W W2 out i (pre ++ [x]) ((X.setCell ⟨W.heap.size + 1,0,none⟩ (.int .i64 (s + rd out x.2))).setCell ⟨W.heap.size + 2,0,none⟩ (.int .i64 (x.2 - rd out x.2))).drew:=by
 have hk : KeepT (W.heap.size + 4) (fun k => k = W.heap.size + 1 ∨ k = W.heap.size + 2) X ((X.setCell ⟨W.heap.size + 1,0,none⟩ (.int .i64 (s + rd out x.2))).setCell ⟨W.heap.size + 2,0,none⟩ (.int .i64 (x.2 - rd out x.2))).drew:=fun k _ ht =>
  (Below.heap_setCell _ _ _ k (fun e => ht (.inr e))).trans (Below.heap_setCell _ _ _ k (fun e => ht (.inl e)))
 refine ⟨((KeepsOthers.setCell _ _ _).trans (KeepsOthers.setCell _ _ _)).trans (KeepsOthers.drew _),hk,h.keep.trans hk,zBX ((h.below.setCell (p:=⟨W.heap.size + 1,0,none⟩) (by simp; omega) _).setCell (p:=⟨W.heap.size + 2,0,none⟩) (by simp; omega) _),
  s + rd out x.2,x.2 - rd out x.2,?_,by omega,by omega,by omega,?_,?_⟩
 ·rw [zBZ,hf]
  simp [h0]
 ·change Boxed ((X.setCell ⟨W.heap.size + 1,0,none⟩ (.int .i64 (s + rd out x.2))).setCell ⟨W.heap.size + 2,0,none⟩ (.int .i64 (x.2 - rd out x.2))) _ _ _
  exact (b1.set (.int .i64 (s + rd out x.2))).kept (grownBy_setCell' _ (W.heap.size + 2) _) (by simp)
 ·change Boxed ((X.setCell ⟨W.heap.size + 1,0,none⟩ (.int .i64 (s + rd out x.2))).setCell ⟨W.heap.size + 2,0,none⟩ (.int .i64 (x.2 - rd out x.2))) _ _ _
  exact (b2.kept (grownBy_setCell' X (W.heap.size + 1) (.int .i64 (s + rd out x.2))) (by simp)).set (.int .i64 (x.2 - rd out x.2))
theorem SzOut.step {w W W2 X : World} {out : List Int} {i : Int} {Ds : List Nat} {pre : List (Int × Int)} {x : Int × Int} {s la : Int} (hS : w.heap.size + 2 < W.heap.size) (h : SzIn w W W2 out i pre X) (hf : szFold out pre 1 (i - 1) = some (s,la)) (hx : ¬ (x.2 = la ∧ 0 ≤ x.2))
  (b0 : Boxed X w.heap.size 22 (.slice none 0 0)) (b1 : Boxed X (w.heap.size + 1) 4 (.bool false)) (hD : ∀ D,D ∈ Ds → X.heap[D]? = some (.deferred (some []))) :
  KeepsOthers X ((X.setCell ⟨w.heap.size,0,none⟩ (.slice none 0 0)).setCell ⟨w.heap.size + 1,0,none⟩ (.bool false)) ∧
  SzOut w out i Ds .ret (pre ++ [x]) ((X.setCell ⟨w.heap.size,0,none⟩ (.slice none 0 0)).setCell ⟨w.heap.size + 1,0,none⟩ (.bool false)):=by
 have hko : KeepsOthers X ((X.setCell ⟨w.heap.size,0,none⟩ (.slice none 0 0)).setCell ⟨w.heap.size + 1,0,none⟩ (.bool false)):=(KeepsOthers.setCell _ _ _).trans (KeepsOthers.setCell _ _ _)
 refine ⟨hko,rfl,?_,?_,?_,(h.below.setCell (p:=⟨w.heap.size,0,none⟩) (Nat.le_refl _) _).setCell (p:=⟨w.heap.size + 1,0,none⟩) (by simp) _,fun D hm => hko.same D _ (hD D hm) rfl⟩
 ·rw [zBZ,hf]
  simp only [Option.bind_some,if_neg hx]
 ·exact (b0.set _).kept (grownBy_setCell' _ (w.heap.size + 1) _) (by simp)
 ·exact (b1.kept (grownBy_setCell' X w.heap.size _) (by simp)).set _
set_option maxRecDepth 100000 in
set_option maxHeartbeats 4000000 in
theorem zBf.calls (A0 : Option Addr) (c0 : Nat) (l0 : List S24) (r1 : List Int) (r2 : Bool) (w : World) (hr0 : Kd.C k24 w A0 l0.length l0) (hc0 : l0.length ≤ c0) (h : zBf.f l0 = some (r1,r2)) :
  Calls Try.prog 27 #[.slice A0 l0.length c0] w fun e w' => ∃ v0_ : Value,e = .returned (.tuple #[v0_,.bool r2]) ∧ Kd.R (Kd.int .i64) 3 w' w.heap.size (fun _ => True) v0_ r1 ∧ Below w.heap.size w w':=by
 have HR:=Aside0.mk hr0
 have HC:=Aside0.mk hc0
 clear hr0 hc0
 have hbnd : l0.length < 17592186044416:=by
  unfold zBf.f at h
  split at h
  ·assumption
  ·cases h
 have H:=Lib.hid h
 clear h
 refine (callsIn_wide (n:=5)).1 ?_
 refine callsIn_of_wp_marks Try.func27 rfl trivial ?_ rfl
 simp only [Try.ntmps27,List.size_toArray,List.length_cons,List.length_nil,Nat.reduceAdd,Nat.reduceSub,Array.replicate_succ,Array.replicate_zero,List.push_toArray,List.append_toArray,List.nil_append,List.cons_append]
 gi_wp2
 refine wpIn_loop (fun a W => ∃ (i : Nat) (out : List Int) (vo : Value) (Ds : List Nat) (u5 u6 u7 u8 u9 u10 u14 u15 u16 u17 u18 u19 u20 u21 u22 u23 u24 u25 u26 u27 u28 u29 u30 u31 u32 u33 u34 u35 u36 u37 u38 u39 u40 u41 u42 u43 u44 u45 u46 u47 u48 u49 : Value),a = { tmps:=#[(.slice A0 l0.length c0),undef,(.pointer (some ⟨w.heap.size,0,none⟩)),(.pointer (some ⟨w.heap.size + 1,0,none⟩)),(.pointer (some ⟨w.heap.size + 2,0,none⟩)),u5,u6,u7,u8,u9,u10,(.slice A0 l0.length c0),(.int .i64 l0.length),(.int .i64 (i : Int)),u14,u15,u16,u17,u18,u19,u20,u21,u22,u23,u24,u25,u26,u27,u28,u29,u30,u31,u32,u33,u34,u35,u36,u37,u38,u39,u40,u41,u42,u43,u44,u45,u46,u47,u48,u49],defers:=Ds.map mkD } ∧ Aside0 (SzI w l0 W i out vo Ds))
  (fun a _ => l0.length - (intOf (a.tmps.getD 13 undef)).toNat) ?_ ?_
 ·refine ⟨0,[],.slice none 0 0,[],_,_,_,_,_,_,_,_,_,_,_,_,_,_,_,_,_,_,_,_,_,_,_,_,_,_,_,_,_,_,_,_,_,_,_,_,_,_,_,_,_,_,rfl,⟨?_⟩⟩
  refine ⟨Nat.zero_le _,rfl,fun j h0 hj => by simp at hj; omega,rfl,?_,?_,?_,World.ownsRow_nil _ _ _ _,?_,List.nodup_nil,fun D hD => by cases hD⟩
  ·exact ((Boxed.new w 22 (.slice none 0 0)).alloc _).alloc _
  ·have:=(Boxed.new (w.alloc (.cells #[.slice none 0 0] 22)) 4 (.bool false)).alloc (.cells #[.slice none 0 0] 22)
   simpa using this
  ·have:=Boxed.new ((w.alloc (.cells #[.slice none 0 0] 22)).alloc (.cells #[.bool false] 4)) 22 (.slice none 0 0)
   simpa using this
  ·exact (((Below.refl _ _).alloc (Nat.le_refl _) _).alloc (by simp) _).alloc (by simp; omega) _
 ·rintro a W ⟨i,out,vo,Ds,u5,u6,u7,u8,u9,u10,u14,u15,u16,u17,u18,u19,u20,u21,u22,u23,u24,u25,u26,u27,u28,u29,u30,u31,u32,u33,u34,u35,u36,u37,u38,u39,u40,u41,u42,u43,u44,u45,u46,u47,u48,u49,rfl,HI⟩
  by_cases hlt : i < l0.length
  ·have hSB : w.heap.size + 2 < W.heap.size:=by have:=HI.out.b2.lt; omega
   obtain ⟨ad,A4,c4,e,k0,k1,k2,k3,k4,hl4,hC4⟩:=at_T24 (Kd.C_below HR.out HI.out.below) (i : Int) (by omega) (by omega)
   have HC4:=Aside0.mk hC4
   have HL4:=Aside0.mk hl4
   clear hC4 hl4
   cases e
   simp only [Int.toNat_natCast] at k0 k1 k2 k3 k4
   have hkn : (rd_T24 l0 (i : Int)).f4.length ≤ 9223372036854775807:=HC4.out.2.1
   gi_wp2_with (refine ⟨trivial,?_⟩; gi_at_call 36; refine (backward_in Fence.wide _ trivial rfl _ _ _ _).mono ?_; rintro e w' ⟨rfl,rfl⟩)
   generalize hnd : rd_T24 l0 (i : Int) = nd at *
   have HND:=Lib.hid hnd
   clear hnd
   obtain ⟨W2,hW2⟩ : ∃ W2,((((W.alloc (.cells #[.int .i64 nd.f0,.int .i64 nd.f1,.int .i64 nd.f2,.string nd.f3,.slice A4 nd.f4.length c4] 24)).alloc (.cells #[.int .i64 1] 3)).alloc (.cells #[.int .i64 ((i : Int) - 1)] 3)).alloc (.cells #[.slice A4 nd.f4.length c4] 22)) = W2:=⟨_,rfl⟩
   have hS2 : W2.heap.size = W.heap.size + 4:=by rw [← hW2]; simp
   have hbW : Below W.heap.size W W2:=by rw [← hW2]; exact ((((Below.refl _ _).alloc (Nat.le_refl _) _).alloc (by simp) _).alloc (by simp; omega) _).alloc (by simp; omega) _
   have hs1 : Boxed W2 (W.heap.size + 1) 3 (.int .i64 1):=by
    rw [← hW2]
    have:=((Boxed.new (W.alloc (.cells #[.int .i64 nd.f0,.int .i64 nd.f1,.int .i64 nd.f2,.string nd.f3,.slice A4 nd.f4.length c4] 24)) 3 (.int .i64 1)).alloc (.cells #[.int .i64 ((i : Int) - 1)] 3)).alloc (.cells #[.slice A4 nd.f4.length c4] 22)
    simpa using this
   have hs2 : Boxed W2 (W.heap.size + 2) 3 (.int .i64 ((i : Int) - 1)):=by
    rw [← hW2]
    have:=(Boxed.new ((W.alloc (.cells #[.int .i64 nd.f0,.int .i64 nd.f1,.int .i64 nd.f2,.string nd.f3,.slice A4 nd.f4.length c4] 24)).alloc (.cells #[.int .i64 1] 3)) 3 (.int .i64 ((i : Int) - 1))).alloc (.cells #[.slice A4 nd.f4.length c4] 22)
    simpa using this
   have hs3 : W2.cell? ⟨W.heap.size + 3,0,none⟩ = some (.slice A4 nd.f4.length c4):=by
    rw [← hW2]
    have:=(Boxed.new (((W.alloc (.cells #[.int .i64 nd.f0,.int .i64 nd.f1,.int .i64 nd.f2,.string nd.f3,.slice A4 nd.f4.length c4] 24)).alloc (.cells #[.int .i64 1] 3)).alloc (.cells #[.int .i64 ((i : Int) - 1)] 3)) 22 (.slice A4 nd.f4.length c4)).cell
    simpa using this
   rw [hW2]
   have hDlt : ∀ D,D ∈ Ds → D < W.heap.size:=fun D hm => (Array.getElem?_eq_some_iff.1 (HI.out.marks D hm).2).1
   have HD:=Lib.hid hDlt
   clear hDlt
   have hA4 : 0 < nd.f4.length → ∀ a',A4 = some a' → a'.block < W.heap.size + 4 ∧ ¬ (a'.block = W.heap.size + 1 ∨ a'.block = W.heap.size + 2):=by
    intro hp a' e
    obtain ⟨ad',e',hcell'⟩:=Kd.at_int HC4.out 0 (by omega) (by omega)
    rw [e] at e'
    cases e'
    have:=World.block_lt_of_cell? W _ hcell'
    rw [zAj] at this
    omega
   obtain ⟨Ao,co,hvo,hlc,hCo⟩:=Kd.R_reads (Kd.zCz (ok:=fun _ => True) (h1:=fun _ => rfl) (enc:=Value.int .i64) HI.out.row (fun _ _ => trivial))
   subst hvo
   have HCo:=Aside0.mk hCo
   clear hCo
   have hlen : (out.length : Int) = i:=by have:=HI.out.len; omega
   have HLEN:=Lib.hid hlen
   clear hlen
   refine wpIn_rangeFunc_ownF (F:=Fence.wide) rfl (by omega) (gf:=50) (lb:=#[.pointer (some ⟨W.heap.size + 3,0,none⟩)]) rfl trivial (enters_of Try.func50 (by kernel_rfl) rfl)
    (back_stops Fence.wide _ trivial rfl (by omega) (W.heap.size + 3) (W.heap.size + 4) c4 (fun k => k = W.heap.size + 1 ∨ k = W.heap.size + 2) A4 nd.f4 W2 (by omega) (by omega) (by omega) hA4 hs3 (Kd.C_below HC4.out hbW))
    KeepT.trans (fun X l o o' hl _ _ _ k hk ht => World.putObj_heap_other (by omega)) (Below.refl _ _) (fun _ => rfl)
    (SzIn w W W2 out i) (SzOut w out i Ds) (SzIn.own hS2 (by omega)) (SzOut.own (by omega) (fun D hm => by have:=HD.out D hm; omega))
    ⟨KeepT.refl _ _ _,HI.out.below.trans (hbW.mono (by omega)),1,(i : Int) - 1,rfl,by omega,by omega,by omega,hs1,hs2⟩
    (fun x => { tmps:=#[(.slice (some ad) l0.length c0),undef,(.pointer (some ⟨w.heap.size,0,none⟩)),(.pointer (some ⟨w.heap.size + 1,0,none⟩)),(.pointer (some ⟨w.heap.size + 2,0,none⟩)),(.int .i64 (i : Int)),(.pointer (some ⟨W.heap.size,0,none⟩)),(.pointer (some ⟨W.heap.size + 1,0,none⟩)),(.pointer (some ⟨W.heap.size + 2,0,none⟩)),u9,(.int .i64 x.2),(.slice (some ad) l0.length c0),(.int .i64 l0.length),(.int .i64 (i : Int)),(.bool true),(.int .i64 (i : Int)),(.pointer (some (ad.add (i * 5)))),(.agg #[.int .i64 nd.f0,.int .i64 nd.f1,.int .i64 nd.f2,.string nd.f3,.slice A4 nd.f4.length c4]),(.int .i64 (i : Int)),(.int .i64 ((i : Int) - 1)),(.pointer (some ⟨W.heap.size,4,none⟩)),(.slice A4 nd.f4.length c4),(.func (.func 50) #[] #[.pointer (some ⟨W.heap.size + 3,0,none⟩)]),(.int .i64 x.1),(.int .i64 x.2),u25,u26,u27,u28,u29,u30,u31,u32,u33,u34,u35,u36,u37,u38,u39,u40,u41,u42,u43,u44,u45,u46,u47,u48,u49],defers:=[] }) ?assign ?body ?done ?stop
   case assign =>
    intro l x X K hK
    gi_wp2
    exact hK
   case body =>
    rintro l pre x X hI _
    obtain ⟨s,la,hf1,hsl,hla0,hla1,hb1,hb2⟩:=hI.st
    have HF1:=Lib.hid hf1
    have HSL:=Lib.hid hsl
    have hs0 : 1 ≤ s:=by omega
    have hs9 : s ≤ (i : Int) + 1:=by omega
    clear hf1 hsl
    have keepB : ∀ k,k < W.heap.size → X.heap[k]? = W.heap[k]?:=fun k hk => (hI.keep k (by omega) (by omega)).trans (hbW.block k hk)
    have x0 : Boxed X w.heap.size 22 (.slice none 0 0):=(keepB _ (by omega)).trans HI.out.b0
    have x1 : Boxed X (w.heap.size + 1) 4 (.bool false):=(keepB _ (by omega)).trans HI.out.b1
    have x2 : Boxed X (w.heap.size + 2) 22 (.slice Ao out.length co):=(keepB _ (by omega)).trans HI.out.b2
    have c0:=x0.cell
    have f0:=x0.frozen
    have c1:=x1.cell
    have f1:=x1.frozen
    have c2:=x2.cell
    have cs:=hb1.cell
    have fs:=hb1.frozen
    have cl:=hb2.cell
    have fl:=hb2.frozen
    have HX:=Aside0.mk hI
    have HKB:=Lib.hid keepB
    have HDX:=Lib.hid (show ∀ D,D ∈ Ds → X.heap[D]? = some (.deferred (some [])) from fun D hm => (keepB D (HD.out D hm)).trans (HI.out.marks D hm).2)
    clear keepB
    by_cases hk : x.2 = la
    ·subst hk
     by_cases h0 : 0 ≤ x.2
     ·have hlx : x.2 < (out.length : Int):=by have:=HLEN.out; omega
      have hgd:=HI.out.good x.2 h0 hlx
      have hg1 : 1 ≤ rd out x.2:=hgd.1
      have hg2 : rd out x.2 ≤ x.2 + 1:=hgd.2
      clear hgd
      obtain ⟨g,hgA,hgS⟩ : ∃ g,Ao = some ⟨g,0,none⟩ ∧ g < W.heap.size:=by
       rcases HI.out.row.2 with ⟨_,hz⟩ | ⟨g,cap,cur,he,hbg,hg,_⟩
       ·omega
       ·injection he with he1 _ _
        exact ⟨g,he1,(Array.getElem?_eq_some_iff.1 hg).1⟩
      have hcX : X.cell? ⟨g,x.2.toNat,none⟩ = some (.int .i64 (rd out x.2)):=by
       obtain ⟨ado,e,hcell⟩:=Kd.at_int HCo.out x.2 h0 hlx
       rw [hgA] at e
       cases e
       have hadd : (⟨g,0,none⟩ : Addr).add x.2.toNat = ⟨g,x.2.toNat,none⟩:=by unfold Addr.add; split <;> simp_all
       rw [hadd] at hcell
       exact (World.cell?_of_block (HKB.out _ hgS)).trans hcell
      subst hgA
      have hmx : Try.prog.follows .mixedOrders = true:=by kernel_rfl
      gi_wp2
      gi_region_with_o (fail)
      all_goals gi_wp2
      all_goals exact SzIn.step hSB (by have:=HLEN.out; omega) HX.out HF1.out HSL.out h0 hla1 hg1 hg2 hb1 hb2
     ·have hd0 : decide (x.2 < 0) = true:=by simp; omega
      gi_wp2
      exact SzOut.step hSB HX.out HF1.out (fun hh => by have:=hh.2; omega) x0 x1 HDX.out
    ·have hb : (x.2 != la) = true:=by rw [bne_iff_ne]; exact hk
     gi_wp2
     exact SzOut.step hSB HX.out HF1.out (fun hh => hk hh.1) x0 x1 HDX.out
   case done =>
    rintro D ys X hD rfl hI hK
    obtain ⟨s,la,hf1,hsl,hla0,hla1,hb1,hb2⟩:=hI.st
    have hs0 : 1 ≤ s:=by omega
    have hs9 : s ≤ (i : Int) + 1:=by omega
    have hin : szInner out nd.f4.reverse 1 ((i : Int) - 1) = some s:=by rw [← revp_snd,zBU,hf1]; rfl
    have HIN:=Lib.hid hin
    clear hf1 hsl hin
    have hSX : W.heap.size + 4 ≤ X.heap.size:=by
     have h3 : X.heap[W.heap.size + 3]? = W2.heap[W.heap.size + 3]?:=hI.keep _ (by omega) (by omega)
     rw [Array.getElem?_eq_getElem (by omega : W.heap.size + 3 < W2.heap.size)] at h3
     have:=(Array.getElem?_eq_some_iff.1 h3).1
     omega
    have keepB : ∀ k,k < W.heap.size → X.heap[k]? = W.heap[k]?:=fun k hk => (hI.keep k (by omega) (by omega)).trans (hbW.block k hk)
    have x0 : Boxed X w.heap.size 22 (.slice none 0 0):=(keepB _ (by omega)).trans HI.out.b0
    have x1 : Boxed X (w.heap.size + 1) 4 (.bool false):=(keepB _ (by omega)).trans HI.out.b1
    have x2 : Boxed X (w.heap.size + 2) 22 (.slice Ao out.length co):=(keepB _ (by omega)).trans HI.out.b2
    have hrow : X.ownsRow w.heap.size 3 1 (.slice Ao out.length co) out.length (nums .i64 out):=zCy HI.out.row (fun k hk => keepB k (HI.out.row.lt k hk).2)
    have c2:=x2.cell
    have cs:=hb1.cell
    obtain ⟨i0,hi,hz0,hz1,hz2⟩:=info_parts info3
    have HX:=Aside0.mk hI
    have HKB:=Lib.hid keepB
    clear keepB
    gi_wp2_with (gi_at_builtin; refine wpListIn_append_own _ rfl _ _ 22 rfl w.heap.size 3 i0 (.int .i64 0) 1 8 Try.underlying22 hi hz0 hz1 hz2 rfl (by decide) _ _ _ rfl (hrow.alloc _) ⟨X.heap.size,0,none⟩ 1 1 [.int .i64 s] rfl rfl (cell_one_new _ _ _) (by simp [Value.oneCell']) (by have:=HLEN.out; simp only [maxLen]; omega) (by have:=HLEN.out; omega) (by simp; omega) ?_; intro v' w1 hown' hgrow _; obtain ⟨g',cap',rfl⟩:=ownsRow_succ hown'; obtain ⟨hv1,hv2,hr2,hk2,hb2'⟩:=x2.appended (n₀:=w.heap.size) (by decide) hrow (by omega) (by omega) hown' hgrow; have hc1:=hv1.cell; have hf1:=hv1.frozen)
    refine ⟨⟨i + 1,out ++ [s],.slice (some ⟨g',0,none⟩) (out.length + 1) cap',D :: Ds,?_⟩,?_⟩
    ·iterate 42 (apply Exists.intro)
     refine ⟨rfl,⟨?_⟩⟩
     have hlenN:=HI.out.len
     refine ⟨by omega,by simp [hlenN],szGood_snoc HI.out.good hs0 (by omega),?_,?_,?_,hv2,?_,hI.below.trans hb2',?_,?_⟩
     ·rw [HI.out.pure,List.drop_eq_getElem_cons hlt,szOuter]
      have e1 : l0[i] = nd:=by rw [← HND.out]; simp [rd_T24,hlt]
      rw [e1,hlenN,HIN.out]
     ·exact ((x0.alloc _).kept hgrow (x0.not_row (by decide) hrow)).kept (grownBy_setCell' _ (w.heap.size + 2) _) (by simp)
     ·exact ((x1.alloc _).kept hgrow (x1.not_row (by decide) hrow)).kept (grownBy_setCell' _ (w.heap.size + 2) _) (by simp)
     ·rw [nums_append,List.length_append,List.length_singleton]; exact hr2
     ·exact List.nodup_cons.2 ⟨fun hm => by have:=HD.out D hm; omega,HI.out.nodup⟩
     ·intro D' hm
      rcases List.mem_cons.1 hm with e | hm
      ·subst e; exact ⟨by omega,hk2.same _ _ hK rfl⟩
      ·exact ⟨(HI.out.marks D' hm).1,hk2.same _ _ ((HKB.out D' (HD.out D' hm)).trans (HI.out.marks D' hm).2) rfl⟩
    ·simp [intOf]; omega
   case stop =>
    rintro D c pre X hD ⟨k,hk,rfl⟩ hO hK
    obtain rfl:=hO.code
    have hr : r1 = [] ∧ r2 = false:=by
     have h:=H.out
     unfold zBf.f at h
     rw [if_pos hbnd,HI.out.pure,List.drop_eq_getElem_cons hlt,szOuter] at h
     have e1 : l0[i] = nd:=by rw [← HND.out]; simp [rd_T24,hlt]
     have e2 : szInner out nd.f4.reverse 1 ((i : Int) - 1) = none:=by
      rw [← revp_snd,zBU,← List.take_append_drop k (revp nd.f4),szFold_prefix_none _ _ _ _ _ hO.bad]; rfl
     rw [e1,HLEN.out,e2] at h
     simp at h
     exact ⟨h.1,h.2⟩
    obtain ⟨rfl,rfl⟩:=hr
    gi_wp2
    refine zBT (D :: Ds) X (List.nodup_cons.2 ⟨fun hm => by have:=HD.out D hm; omega,HI.out.nodup⟩) (fun D' hm => ?_) (fun W' h1 h2 h3 h4 h5 => ?_)
    ·rcases List.mem_cons.1 hm with e | hm
     ·subst e; exact hK
     ·exact hO.marks D' hm
    ·have hnm : ∀ k v t,Boxed X k t v → W'.heap[k]? = X.heap[k]?:=fun k v t hb => h5 k (fun hm => by
      have hd : X.heap[k]? = some (.deferred (some [])):=by
       rcases List.mem_cons.1 hm with e | hm
       ·subst e; exact hK
       ·exact hO.marks k hm
      rw [show X.heap[k]? = _ from hb] at hd
      cases hd)
     have y0 : Boxed W' w.heap.size 22 (.slice none 0 0):=(hnm _ _ _ hO.b0).trans hO.b0
     have y1 : Boxed W' (w.heap.size + 1) 4 (.bool false):=(hnm _ _ _ hO.b1).trans hO.b1
     have q0:=y0.cell
     have q1:=y1.cell
     refine ⟨.tuple #[.slice none 0 0,.bool false],by simp [results,Try.f27,go_sem,q0,q1],.slice none 0 0,rfl,Kd.R_nil _ _ _ _ _,?_⟩
     have hb:=hO.below
     exact ⟨h1.trans hb.os,h2.trans hb.tape,h3.trans hb.output,by rw [h4]; exact hb.size,fun k hk => (h5 k (fun hm => by
      rcases List.mem_cons.1 hm with e | hm
      ·omega
      ·have:=(HI.out.marks k hm).1; omega)).trans (hb.block k hk)⟩
  ·have hie : i = l0.length:=by have:=HI.out.le; omega
   have hr : r1 = out ∧ r2 = true:=by
    have h:=H.out
    unfold zBf.f at h
    rw [if_pos hbnd,HI.out.pure,hie,List.drop_length,szOuter] at h
    simp at h
    exact ⟨h.1.symm,h.2⟩
   obtain ⟨rfl,rfl⟩:=hr
   have HIE:=Lib.hid hie
   clear hie
   have c0:=HI.out.b0.cell
   have f0:=HI.out.b0.frozen
   have c1:=HI.out.b1.cell
   have f1:=HI.out.b1.frozen
   have c2:=HI.out.b2.cell
   obtain ⟨Ao,co,hvo⟩ : ∃ A c,vo = .slice A r1.length c:=by
    rcases HI.out.row.2 with ⟨e,hz⟩ | ⟨g,cap,cur,e,_⟩
    ·exact ⟨none,0,by rw [e,hz]⟩
    ·exact ⟨_,_,e⟩
   subst hvo
   gi_wp2
   have HB:=HI.out
   refine zBT Ds _ HI.out.nodup (fun D' hm => ?_) (fun W' h1 h2 h3 h4 h5 => ?_)
   ·have:=(HB.marks D' hm).2
    exact ((KeepsOthers.setCell _ _ _).trans (KeepsOthers.setCell _ _ _)).same _ _ this rfl
   ·obtain ⟨W1,hW1⟩ : ∃ W1,(W.setCell ⟨w.heap.size,0,none⟩ (.slice Ao r1.length co)).setCell ⟨w.heap.size + 1,0,none⟩ (.bool true) = W1:=⟨_,rfl⟩
    rw [hW1] at h1 h2 h3 h4 h5
    have z0 : Boxed W1 w.heap.size 22 (.slice Ao r1.length co):=by
     rw [← hW1]; exact (HB.b0.set _).kept (grownBy_setCell' _ (w.heap.size + 1) _) (by simp)
    have z1 : Boxed W1 (w.heap.size + 1) 4 (.bool true):=by
     rw [← hW1]; exact (HB.b1.kept (grownBy_setCell' W w.heap.size _) (by simp)).set _
    have zr : W1.ownsRow w.heap.size 3 1 (.slice Ao r1.length co) r1.length (nums .i64 r1):=by
     have hb0' : Boxed (W.setCell ⟨w.heap.size,0,none⟩ (.slice Ao r1.length co)) w.heap.size 22 (.slice Ao r1.length co):=HB.b0.set _
     have hr1:=HB.row.kept (grownBy_setCell' W w.heap.size (.slice Ao r1.length co)) (.inr (HB.b0.not_row (by decide) HB.row).symm)
     rw [← hW1]
     exact hr1.kept (grownBy_setCell' _ (w.heap.size + 1) _) (.inr ((HB.b1.kept (grownBy_setCell' W w.heap.size _) (by simp)).not_row (by decide) hr1).symm)
    have zb : Below w.heap.size w W1:=by
     rw [← hW1]; exact (HB.below.setCell (p:=⟨w.heap.size,0,none⟩) (Nat.le_refl _) _).setCell (p:=⟨w.heap.size + 1,0,none⟩) (by simp) _
    have zd : ∀ D,D ∈ Ds → W1.heap[D]? = some (.deferred (some [])):=fun D hm => by
     rw [← hW1]; exact ((KeepsOthers.setCell _ _ _).trans (KeepsOthers.setCell _ _ _)).same _ _ (HB.marks D hm).2 rfl
    have hnm : ∀ k (cs : Array Value) t,W1.heap[k]? = some (Obj.cells cs t (0,0)) → W'.heap[k]? = W1.heap[k]?:=fun k cs t hb => h5 k (fun hm => by
     have hd:=zd k hm
     rw [hb] at hd
     cases hd)
    have y0 : Boxed W' w.heap.size 22 (.slice Ao r1.length co):=(hnm _ _ _ z0).trans z0
    have y1 : Boxed W' (w.heap.size + 1) 4 (.bool true):=(hnm _ _ _ z1).trans z1
    have q0:=y0.cell
    have q1:=y1.cell
    refine ⟨.tuple #[.slice Ao r1.length co,.bool true],by simp [results,Try.f27,go_sem,q0,q1],_,rfl,?_,?_⟩
    ·refine Kd.zCz (h1:=fun _ => rfl) (zCy zr (fun k hk => ?_)) (fun _ _ => trivial)
     rcases zr.2 with ⟨e,_⟩ | ⟨g,cap,cur,e,_,hg,_⟩
     ·rw [e] at hk; simp [Value.ownBlock] at hk
     ·rw [e] at hk
      have : g = k:=by simpa [Value.ownBlock] using hk
      subst this
      exact hnm _ _ _ hg
    ·exact ⟨h1.trans zb.os,h2.trans zb.tape,h3.trans zb.output,by rw [h4]; exact zb.size,fun k hk => (h5 k (fun hm => by have:=(HB.marks k hm).1; omega)).trans (zb.block k hk)⟩
open Go.RowKit Go.Proofs.YtpggidmpkhmijaaW.PrintWords
inductive RT where
 | node (x : S24) (kids : List RT) : RT
mutual
def RT.size : RT → Nat
 | .node _ ks => RT.sizes ks + 1
def RT.sizes : List RT → Nat
 | [] => 0
 | t :: ts => RT.size t + RT.sizes ts
end
def RT.roots (o : Nat) : List RT → List Int
 | [] => []
 | t :: ts => ((o : Int) + t.size - 1) :: RT.roots (o + t.size) ts
mutual
def RT.flat (o : Nat) : RT → List S24
 | .node x ks => RT.flats o ks ++ [{ x with f4:=RT.roots o ks }]
def RT.flats (o : Nat) : List RT → List S24
 | [] => []
 | t :: ts => RT.flat o t ++ RT.flats (o + RT.size t) ts
end
mutual
def RT.szs : RT → List Int
 | .node _ ks => RT.szss ks ++ [(RT.sizes ks : Int) + 1]
def RT.szss : List RT → List Int
 | [] => []
 | t :: ts => RT.szs t ++ RT.szss ts
end
mutual
def RT.depth : RT → Nat
 | .node _ ks => RT.depths ks + 1
def RT.depths : List RT → Nat
 | [] => 0
 | t :: ts => max (RT.depth t) (RT.depths ts)
end
theorem RT.size_pos : ∀ t : RT,0 < t.size
 | .node _ ks => by simp [RT.size]
mutual
theorem RT.flat_len (o : Nat) : ∀ t : RT,(RT.flat o t).length = t.size
 | .node x ks => by simp [RT.flat,RT.size,RT.flats_len o ks]
theorem RT.flats_len (o : Nat) : ∀ ts : List RT,(RT.flats o ts).length = RT.sizes ts
 | [] => rfl
 | t :: ts => by simp [RT.flats,RT.sizes,RT.flat_len o t,RT.flats_len (o + t.size) ts]
end
mutual
theorem RT.szs_len : ∀ t : RT,t.szs.length = t.size
 | .node x ks => by simp [RT.szs,RT.size,RT.szss_len ks]
theorem RT.szss_len : ∀ ts : List RT,(RT.szss ts).length = RT.sizes ts
 | [] => rfl
 | t :: ts => by simp [RT.szss,RT.sizes,RT.szs_len t,RT.szss_len ts]
end
theorem RT.roots_len (o : Nat) : ∀ ts : List RT,(RT.roots o ts).length = ts.length
 | [] => rfl
 | t :: ts => by simp [RT.roots,RT.roots_len (o + t.size) ts]
theorem RT.sizes_append : ∀ (a b : List RT),RT.sizes (a ++ b) = RT.sizes a + RT.sizes b
 | [],b => by simp [RT.sizes]
 | t :: ts,b => by simp [RT.sizes,RT.sizes_append ts b]; omega
theorem zBH (a b : List Int) (i : Nat) (h : i < a.length) : rd (a ++ b) (i : Int) = rd a (i : Int):=by
 unfold rd
 rw [List.getD_eq_getElem?_getD,List.getD_eq_getElem?_getD]
 simp [List.getElem?_append_left h]
theorem zBy (a b : List Int) (i : Nat) : rd (a ++ b) ((a.length + i : Nat) : Int) = rd b (i : Int):=by
 unfold rd
 rw [Int.toNat_natCast,Int.toNat_natCast,List.getD_eq_getElem?_getD,List.getD_eq_getElem?_getD,List.getElem?_append_right (by omega),Nat.add_sub_cancel_left]
theorem RT.szs_last (t : RT) : rd t.szs ((t.size - 1 : Nat) : Int) = t.size:=by
 cases t with
 | node x ks =>
  have : rd (RT.szss ks ++ [(RT.sizes ks : Int) + 1]) ((((RT.szss ks).length + 0 : Nat)) : Int) = (RT.sizes ks : Int) + 1:=by rw [zBy]; rfl
  simp only [RT.szs,RT.size,Nat.add_sub_cancel]
  rw [RT.szss_len,Nat.add_zero] at this
  rw [this]
  omega
theorem inner_roots : ∀ (ts : List RT) (pre z tail : List Int),z = pre ++ RT.szss ts ++ tail →
  ∀ (s : Int) (ks : List Int),szInner z ((RT.roots pre.length ts).reverse ++ ks) s ((pre.length : Int) + RT.sizes ts - 1) = szInner z ks (s + RT.sizes ts) ((pre.length : Int) - 1)
 | [],pre,z,tail,hz,s,ks => by simp [RT.roots,RT.sizes]
 | t :: ts,pre,z,tail,hz,s,ks => by
  have hp:=RT.size_pos t
  have ih:=inner_roots ts (pre ++ t.szs) z tail (by rw [hz]; simp [RT.szss]) s ((((pre.length : Int) + t.size - 1)) :: ks)
  rw [List.length_append,RT.szs_len] at ih
  rw [RT.roots,RT.sizes,List.reverse_cons,List.append_assoc,List.singleton_append]
  rw [show ((pre.length : Int) + ((t.size + RT.sizes ts : Nat) : Int) - 1) = (((pre.length + t.size : Nat) : Int) + (RT.sizes ts : Int) - 1) from by omega,ih]
  have hr : rd z ((pre.length : Int) + t.size - 1) = t.size:=by
   rw [hz,RT.szss,show ((pre.length : Int) + t.size - 1) = ((pre.length + (t.size - 1) : Nat) : Int) from by omega,List.append_assoc,zBy,List.append_assoc,zBH _ _ _ (by rw [RT.szs_len]; omega),RT.szs_last]
  simp only [szInner]
  rw [if_pos ⟨by omega,by omega⟩,hr]
  congr 1 <;> omega
mutual
theorem outer_flat : ∀ (t : RT) (out : List Int) (rest : List S24),szOuter (RT.flat out.length t ++ rest) out = szOuter rest (out ++ t.szs)
 | .node x ks,out,rest => by
  have h:=outer_flats ks out ({ x with f4:=RT.roots out.length ks } :: rest)
  rw [RT.flat,List.append_assoc,List.singleton_append,h,szOuter]
  have hi:=inner_roots ks out (out ++ RT.szss ks) [] (by simp) 1 []
  rw [List.append_nil] at hi
  rw [show (((out ++ RT.szss ks).length : Int) - 1) = ((out.length : Int) + RT.sizes ks - 1) from by rw [List.length_append,RT.szss_len]; omega,hi]
  simp only [szInner,RT.szs,List.append_assoc]
  rw [show (1 : Int) + RT.sizes ks = (RT.sizes ks : Int) + 1 from by omega]
theorem outer_flats : ∀ (ts : List RT) (out : List Int) (rest : List S24),szOuter (RT.flats out.length ts ++ rest) out = szOuter rest (out ++ RT.szss ts)
 | [],out,rest => by simp [RT.flats,RT.szss]
 | t :: ts,out,rest => by
  have h2:=outer_flats ts (out ++ t.szs) rest
  rw [List.length_append,RT.szs_len] at h2
  rw [RT.flats,List.append_assoc,outer_flat t out,h2,RT.szss,List.append_assoc]
end
def AtT (ns : List S24) (o : Nat) (t : RT) : Prop:=(ns.drop o).take t.size = RT.flat o t
def AtF (ns : List S24) (o : Nat) (ts : List RT) : Prop:=(ns.drop o).take (RT.sizes ts) = RT.flats o ts
theorem AtT.le {ns : List S24} {o : Nat} {t : RT} (h : AtT ns o t) : o + t.size ≤ ns.length:=by
 have h1:=congrArg List.length h
 have:=RT.size_pos t
 rw [List.length_take,List.length_drop,RT.flat_len] at h1
 omega
theorem AtF.le {ns : List S24} {o : Nat} {ts : List RT} (h : AtF ns o ts) (ho : o ≤ ns.length) : o + RT.sizes ts ≤ ns.length:=by
 have h1:=congrArg List.length h
 rw [List.length_take,List.length_drop,RT.flats_len] at h1
 omega
theorem AtF.nil (ns : List S24) (o : Nat) : AtF ns o []:=by simp [AtF,RT.sizes,RT.flats]
theorem AtF.cons {ns : List S24} {o : Nat} {t : RT} {ts : List RT} (h : AtT ns o t) (k : AtF ns (o + t.size) ts) : AtF ns o (t :: ts):=by
 unfold AtF at k ⊢
 rw [RT.sizes,List.take_add,RT.flats,h,List.drop_drop,k]
theorem AtT.node {ns : List S24} {o : Nat} {x : S24} {ks : List RT} (h : AtF ns o ks) (hl : o + RT.sizes ks < ns.length) (hx : ns[o + RT.sizes ks] = { x with f4:=RT.roots o ks }) : AtT ns o (.node x ks):=by
 unfold AtT
 rw [RT.size,List.take_add,RT.flat,h,List.drop_drop,List.drop_eq_getElem_cons hl,hx]
 rfl
theorem AtT.kids {ns : List S24} {o : Nat} {x : S24} {ks : List RT} (h : AtT ns o (.node x ks)) : AtF ns o ks ∧ ∃ hl : o + RT.sizes ks < ns.length,ns[o + RT.sizes ks] = { x with f4:=RT.roots o ks }:=by
 have hle:=h.le
 rw [RT.size] at hle
 unfold AtT at h
 rw [RT.size,List.take_add,RT.flat,List.drop_drop,List.drop_eq_getElem_cons (by omega : o + RT.sizes ks < ns.length)] at h
 have h2:=List.append_inj h (by rw [List.length_take,List.length_drop,RT.flats_len]; omega)
 refine ⟨h2.1,by omega,?_⟩
 have:=h2.2
 rw [List.take_succ_cons,List.take_zero] at this
 exact (List.cons.inj this).1
theorem AtF.head {ns : List S24} {o : Nat} {t : RT} {ts : List RT} (h : AtF ns o (t :: ts)) (ho : o ≤ ns.length) : AtT ns o t ∧ AtF ns (o + t.size) ts:=by
 have hle:=h.le ho
 rw [RT.sizes] at hle
 unfold AtF at h
 rw [RT.sizes,List.take_add,RT.flats,List.drop_drop] at h
 have h2:=List.append_inj h (by rw [List.length_take,List.length_drop,RT.flat_len]; omega)
 exact ⟨h2.1,h2.2⟩
theorem zCi : ∀ (ns : List S24) (acc out : List Int),szOuter ns acc = some out → ∃ suf,out = acc ++ suf ∧ suf.length = ns.length ∧
  ∀ (i : Nat) (h : i < ns.length),szInner (out.take (acc.length + i)) ns[i].f4.reverse 1 (((acc.length + i : Nat) : Int) - 1) = some (rd out ((acc.length + i : Nat) : Int))
 | [],acc,out,h => by
  simp only [szOuter,Option.some.injEq] at h
  exact ⟨[],by simp [h],rfl,fun i h => by simp at h⟩
 | n :: ns,acc,out,h => by
  rw [szOuter] at h
  split at h
  ·cases h
  ·rename_i s hs
   obtain ⟨suf,h1,h2,h3⟩:=zCi ns (acc ++ [s]) out h
   refine ⟨s :: suf,by simp [h1],by simp [h2],fun i hi => ?_⟩
   cases i with
   | zero =>
    have e1 : out.take (acc.length + 0) = acc:=by rw [h1,Nat.add_zero,List.append_assoc,List.take_left]
    have e2 : rd out ((acc.length + 0 : Nat) : Int) = s:=by rw [h1,List.append_assoc,zBy]; rfl
    rw [e1,e2]
    simpa using hs
   | succ i =>
    have:=h3 i (by simpa using hi)
    rw [List.length_append,List.length_singleton] at this
    rw [show acc.length + (i + 1) = acc.length + 1 + i from by omega]
    simpa using this
def OkAt (ns : List S24) (out : List Int) (k : Nat) : Prop:=∃ t : RT,(t.size : Int) = rd out k ∧ t.size ≤ k + 1 ∧ AtT ns (k + 1 - t.size) t
theorem build_inner (ns : List S24) (out : List Int) (i : Nat) (hi : i ≤ ns.length) (IH : ∀ k,k < i → OkAt ns out k) : ∀ (ks : List Int) (s r : Int) (ts : List RT) (o : Nat),o ≤ i → AtF ns o ts → s = 1 + RT.sizes ts →
  szInner out ks s ((o : Int) - 1) = some r → ∃ ts' o',o' ≤ o ∧ AtF ns o' ts' ∧ r = 1 + RT.sizes ts' ∧ RT.roots o' ts' = ks.reverse ++ RT.roots o ts ∧ o' + RT.sizes ts' = o + RT.sizes ts
 | [],s,r,ts,o,ho,hF,hs,h => by
  simp only [szInner,Option.some.injEq] at h
  exact ⟨ts,o,Nat.le_refl _,hF,by rw [← h,hs],by simp,rfl⟩
 | k :: ks,s,r,ts,o,ho,hF,hs,h => by
  simp only [szInner] at h
  split at h
  ·rename_i hc
   have hk : k = ((o - 1 : Nat) : Int):=by omega
   obtain ⟨t,ht1,ht2,ht3⟩:=IH (o - 1) (by omega)
   rw [← hk] at ht1
   rw [show o - 1 + 1 = o from by omega] at ht2 ht3
   have hF2 : AtF ns (o - t.size) (t :: ts):=AtF.cons ht3 (by rw [show o - t.size + t.size = o from by omega]; exact hF)
   rw [← ht1,show k - (t.size : Int) = ((o - t.size : Nat) : Int) - 1 from by omega] at h
   obtain ⟨ts',o',h1,h2,h3,h4,h5⟩:=build_inner ns out i hi IH ks _ r (t :: ts) (o - t.size) (by omega) hF2 (by rw [RT.sizes]; omega) h
   refine ⟨ts',o',by omega,h2,h3,?_,by rw [h5,RT.sizes]; omega⟩
   rw [h4,RT.roots,List.reverse_cons,List.append_assoc,List.singleton_append,show o - t.size + t.size = o from by omega,show ((o - t.size : Nat) : Int) + (t.size : Int) - 1 = k from by omega]
  ·cases h
theorem rd_take (l : List Int) (n i : Nat) (h : i < n) : rd (l.take n) (i : Int) = rd l (i : Int):=by
 unfold rd
 rw [Int.toNat_natCast,List.getD_eq_getElem?_getD,List.getD_eq_getElem?_getD,List.getElem?_take_of_lt h]
theorem okAt_of {ns : List S24} {out : List Int} (h : szOuter ns [] = some out) : ∀ i,i < ns.length → ∃ (x : S24) (ks : List RT) (o : Nat),x = ns.getD i z24 ∧ AtT ns o (.node x ks) ∧ o + RT.sizes ks = i ∧ ((RT.node x ks).size : Int) = rd out i:=by
 obtain ⟨suf,h1,h2,h3⟩:=zCi ns [] out h
 intro i
 induction i using Nat.strongRecOn with
 | _ i IH =>
  intro hi
  have hs:=h3 i hi
  simp only [List.length_nil,Nat.zero_add] at hs
  have IH' : ∀ k,k < i → OkAt ns (out.take i) k:=fun k hk => by
   obtain ⟨x,ks,o,_,hat,he,hz⟩:=IH k hk (by omega)
   refine ⟨.node x ks,by rw [rd_take _ _ _ hk]; exact hz,by rw [RT.size]; omega,?_⟩
   rw [RT.size,show k + 1 - (RT.sizes ks + 1) = o from by omega]
   exact hat
  obtain ⟨ts',o',q1,q2,q3,q4,q5⟩:=build_inner ns (out.take i) i (by omega) IH' _ _ _ [] i (Nat.le_refl _) (AtF.nil _ _) (by simp [RT.sizes]) hs
  simp only [RT.sizes,Nat.add_zero] at q5
  simp only [List.reverse_reverse,RT.roots,List.append_nil] at q4
  refine ⟨ns[i],ts',o',by simp [hi],AtT.node q2 (by omega) ?_,q5,by rw [RT.size,q3]; omega⟩
  simp only [q5,q4]
theorem flat_of {ns : List S24} {out : List Int} (h : szOuter ns [] = some out) (hn : 0 < ns.length) (hz : rd out ((ns.length - 1 : Nat) : Int) = ns.length) : ∃ t : RT,ns = RT.flat 0 t ∧ t.size = ns.length:=by
 obtain ⟨x,ks,o,_,hat,he,hsz⟩:=okAt_of h (ns.length - 1) (by omega)
 rw [hz] at hsz
 have hs : (RT.node x ks).size = ns.length:=by omega
 have ho : o = 0:=by rw [RT.size] at hs; omega
 subst ho
 refine ⟨.node x ks,?_,hs⟩
 unfold AtT at hat
 rw [List.drop_zero,hs,List.take_length] at hat
 exact hat
end Go.Proofs.Ytpggidmpkhmijaa.P
