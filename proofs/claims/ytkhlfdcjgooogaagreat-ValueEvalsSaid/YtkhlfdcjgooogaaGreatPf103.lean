import Derived.Test.YtkhlfdcjgooogaaGreatProg
import Derived.Below
import Derived.Deep.Draws
import Derived.Deep.AppendLies
import Derived.Maps.AppendAt
import Derived.OwnWalk
import Derived.Laws.BytesArg
import Derived.Laws.MakeOwn
import Derived.Laws.OwnMore
import Derived.Deep.OwnRows
import Derived.Tactics
import Derived.Lib.ConvBytes
import Derived.Laws.Slices
import Derived.WalkKit
import Derived.KernelRfl
import Derived.RowKit3
import Derived.Deep.LoopGhost
import Derived.Deep.QuietTactic
import Derived.BigQuiet
import Derived.WideLaws
import Derived.Deep.DeepCutAuto
import Derived.Deep.CutBlock
import Derived.Deep.RegionHeld3
import Derived.Laws.Rows
import Derived.Lib.AppendStr
import Derived.ArgAppend
import Derived.Laws.IdiomCopy
import Derived.OrdersHeld
import Derived.Laws.BitsLemmas
import Derived.RowKit
import Derived.Test.YtkhlfdcjgooogaaGreatWWords
import Derived.Test.YtkhlfdcjgooogaaGreatWLast
import Derived.Test.YtkhlfdcjgooogaaGreatWMore
import Derived.Laws.StructEq
import Derived.Shelf.Small.Strs
import Derived.Shelf.Strings.Search1
import Derived.Shelf.Strings.Search2
import Derived.Shelf.Strings.Search3
import Derived.Shelf.LaysM
import Derived.Shelf.Strings.Shaped
import Derived.Lib.IndexAny
import Derived.Lib.Hide
import Derived.Outline
import Derived.LoopTactic
import Derived.WalkSmall
set_option maxRecDepth 100000
set_option maxHeartbeats 16000000
set_option linter.unusedVariables false
set_option linter.unusedSimpArgs false
set_option linter.unusedSectionVars false
namespace Go.Proofs.YtkhlfdcjgooogaaGreat.P
open Go.RowKit Go.Proofs.YtkhlfdcjgooogaaGreatW.PrintWords Go.Proofs.YtkhlfdcjgooogaaGreatW.PrintLast Go.Proofs.YtkhlfdcjgooogaaGreatW.PrintMore
attribute [local go_sem] zAP zAQ max_two min_two zAK zAJ zAS zAR
def errW : Option Int → Value
 | none => .nilIface
 | some c => .iface 0 (.int .i64 c)
theorem zAs : errW none = .nilIface:=rfl
theorem zAt (c : Int) : errW (some c) = .iface 0 (.int .i64 c):=rfl
theorem info3 : (Tryz.prog.info? 3).map (fun i => (i.zero,i.size,i.bytes)) = some (some (.int .i64 0),1,8):=by kernel_rfl
structure S66 where
 f0 : Int
 f1 : Int
 f2 : Int
 f3 : ByteArray
 f4 : (List Int)
def z66 : S66:=⟨(0 : Int),(0 : Int),(0 : Int),(⟨#[]⟩ : ByteArray),([] : List Int)⟩
def k66 : Kd S66:=Kd.iso (Kd.pair (Kd.int .i64) (Kd.pair (Kd.int .i64) (Kd.pair (Kd.int .i64) (Kd.pair Kd.string (Kd.slice 3 (Kd.int .i64)))))) (fun x : S66 => (x.f0,x.f1,x.f2,x.f3,x.f4))
theorem k66_open {w : World} {x : S66} {cs : List Value} (h : k66.K w x cs) : ∃ A4 c4,cs = [.int .i64 x.f0,.int .i64 x.f1,.int .i64 x.f2,.string x.f3,.slice A4 x.f4.length c4] ∧ x.f4.length ≤ c4 ∧ (Kd.int .i64).C w A4 x.f4.length x.f4:=by
 obtain ⟨_,_,rfl,rfl,⟨_,_,rfl,rfl,⟨_,_,rfl,rfl,⟨_,_,rfl,rfl,⟨A4,c4,rfl,l4,g4⟩⟩⟩⟩⟩:=h
 exact ⟨A4,c4,rfl,l4,g4⟩
def rd_T66 (xs : List S66) (i : Int) : S66:=xs.getD i.toNat z66
theorem at_T66 {w : World} {A : Option Addr} {n : Nat} {xs : List S66} (h : Kd.C k66 w A n xs) (i : Int) (h0 : 0 ≤ i) (h1 : i < n) : ∃ ad A4 c4,A = some ad ∧ w.cell? (ad.add (i.toNat * 5)) = some (.int .i64 (rd_T66 xs i).f0) ∧ w.cell? ⟨(ad.add (i.toNat * 5)).block,(ad.add (i.toNat * 5)).off + 1,none⟩ = some (.int .i64 (rd_T66 xs i).f1) ∧ w.cell? ⟨(ad.add (i.toNat * 5)).block,(ad.add (i.toNat * 5)).off + 2,none⟩ = some (.int .i64 (rd_T66 xs i).f2) ∧ w.cell? ⟨(ad.add (i.toNat * 5)).block,(ad.add (i.toNat * 5)).off + 3,none⟩ = some (.string (rd_T66 xs i).f3) ∧ w.cell? ⟨(ad.add (i.toNat * 5)).block,(ad.add (i.toNat * 5)).off + 4,none⟩ = some (.slice A4 (rd_T66 xs i).f4.length c4) ∧ (rd_T66 xs i).f4.length ≤ c4 ∧ (Kd.int .i64).C w A4 (rd_T66 xs i).f4.length (rd_T66 xs i).f4:=by
 obtain ⟨ad,c,e,_,hK,hc0⟩:=Kd.C_get h z66 i h0 h1
 have hc : ∀ j u,c[j]? = some u → w.cell? (ad.add (i.toNat * 5 + j)) = some u:=hc0
 obtain ⟨A4,c4,rfl,l4,g4⟩:=k66_open hK
 exact ⟨ad,A4,c4,e,hc 0 _ rfl,by rw [← zBE _ _ 1 (by omega)]; exact hc 1 _ rfl,by rw [← zBE _ _ 2 (by omega)]; exact hc 2 _ rfl,by rw [← zBE _ _ 3 (by omega)]; exact hc 3 _ rfl,by rw [← zBE _ _ 4 (by omega)]; exact hc 4 _ rfl,l4,g4⟩
structure S24 where
 f0 : (List S66)
 f1 : Int
def k24 : Kd S24:=Kd.iso (Kd.pair (Kd.slice 66 k66) (Kd.int .i64)) (fun x : S24 => (x.f0,x.f1))
theorem k24_open {w : World} {x : S24} {cs : List Value} (h : k24.K w x cs) : ∃ A0 c0,cs = [.slice A0 x.f0.length c0,.int .i64 x.f1] ∧ x.f0.length ≤ c0 ∧ k66.C w A0 x.f0.length x.f0:=by
 obtain ⟨_,_,rfl,⟨A0,c0,rfl,l0,g0⟩,rfl⟩:=h
 exact ⟨A0,c0,rfl,l0,g0⟩
end Go.Proofs.YtkhlfdcjgooogaaGreat.P
namespace Go.Proofs
open Go.Shelf
def Tryz.lays137_ren : Go.Shelf.Ren:=⟨fun | 137 => 96 | 217 => 124 | 266 => 136 | n => n,fun | 9 => 9 | 5 => 5 | 3 => 3 | n => n,fun | n => n⟩
theorem Tryz.lays137 : Go.Proofs.Lays.n137 Tryz.prog Tryz.lays137_ren:={
 mixed:=by kernel_rfl
 f137:=Tryz.func96.trans (congrArg some (by kernel_rfl))
 f217:=Tryz.func124.trans (congrArg some (by kernel_rfl))
 f266:=Tryz.func136.trans (congrArg some (by kernel_rfl))
 t3:=Tryz.underlying3
 a3:=Tryz.isAgg3
 z3:=Tryz.sizeOf3
 v3:=Tryz.zeroValue3
 t5:=Tryz.underlying5
 a5:=Tryz.isAgg5
 z5:=Tryz.sizeOf5
 v5:=Tryz.zeroValue5
 t9:=Tryz.underlying9
 a9:=Tryz.isAgg9
 z9:=Tryz.sizeOf9
 v9:=Tryz.zeroValue9 }
open Go.RowKit in
theorem Tryz.strings_IndexByte (s : ByteArray) (c : Int) (w : World) :
  Calls Tryz.prog 96 #[.string s,.int .u8 c] w fun e w' => e = .returned (.int .i64 (Lib.indexByte s.data.toList c.toNat.toUInt8)) ∧ w' = w:=Any.strings_IndexByte Tryz.lays137 s c w
def Tryz.lays144_ren : Go.Shelf.Ren:=⟨fun | 144 => 97 | 143 => 125 | 219 => 137 | 217 => 124 | 225 => 142 | 224 => 143 | 267 => 144 | 266 => 136 | 314 => 145 | n => n,fun | 9 => 9 | 4 => 4 | 3 => 3 | 5 => 5 | 46 => 168 | 146 => 170 | 51 => 169 | n => n,fun | 1 => 0 | n => n⟩
theorem Tryz.lays144 : Go.Proofs.Lays.n144 Tryz.prog Tryz.lays144_ren:={
 mixed:=by kernel_rfl
 f143:=Tryz.func125.trans (congrArg some (by kernel_rfl))
 f144:=Tryz.func97.trans (congrArg some (by kernel_rfl))
 f217:=Tryz.func124.trans (congrArg some (by kernel_rfl))
 f219:=Tryz.func137.trans (congrArg some (by kernel_rfl))
 f224:=Tryz.func143.trans (congrArg some (by kernel_rfl))
 f225:=Tryz.func142.trans (congrArg some (by kernel_rfl))
 f266:=Tryz.func136.trans (congrArg some (by kernel_rfl))
 f267:=Tryz.func144.trans (congrArg some (by kernel_rfl))
 f314:=Tryz.func145.trans (congrArg some (by kernel_rfl))
 t3:=Tryz.underlying3
 a3:=Tryz.isAgg3
 z3:=Tryz.sizeOf3
 v3:=Tryz.zeroValue3
 t4:=Tryz.underlying4
 a4:=Tryz.isAgg4
 z4:=Tryz.sizeOf4
 v4:=Tryz.zeroValue4
 t5:=Tryz.underlying5
 a5:=Tryz.isAgg5
 z5:=Tryz.sizeOf5
 v5:=Tryz.zeroValue5
 t9:=Tryz.underlying9
 a9:=Tryz.isAgg9
 z9:=Tryz.sizeOf9
 v9:=Tryz.zeroValue9
 t46:=Tryz.underlying168
 a46:=Tryz.isAgg168
 z46:=Tryz.sizeOf168
 v46:=Tryz.zeroValue168
 t51:=Tryz.underlying169
 a51:=Tryz.isAgg169
 z51:=Tryz.sizeOf169
 v51:=Tryz.zeroValue169
 t146:=Tryz.underlying170
 a146:=Tryz.isAgg170
 z146:=Tryz.sizeOf170
 v146:=Tryz.zeroValue170
 g1:=by kernel_rfl }
open Go.RowKit Go.Lib in
theorem Tryz.strings_Contains (s sub : ByteArray) (m : Int) (w : World) (hs : s.size < 4294967281) (hm : w.cell? ⟨0,0,none⟩ = some (.int .i64 m)) :
  Calls Tryz.prog 97 #[.string s,.string sub] w fun e w' => e = .returned (.bool (Lib.contains s.data.toList sub.data.toList)) ∧ w' = w:=Any.strings_Contains Tryz.lays144 s sub m w hs hm
end Go.Proofs
namespace Go.Proofs.YtkhlfdcjgooogaaGreat.P
open Go.RowKit Go.Proofs.YtkhlfdcjgooogaaGreatW.PrintWords Go.Proofs.YtkhlfdcjgooogaaGreatW.PrintLast Go.Proofs.YtkhlfdcjgooogaaGreatW.PrintMore
def hasB (sm : ByteArray) (c : UInt8) : Bool:=sm.data.toList.contains c
theorem byte_back (c : UInt8) : ((c.toNat : Int)).toNat.toUInt8 = c:=by
 rw [Int.toNat_natCast]
 exact UInt8.ofNat_toNat
theorem idx_any (sm : ByteArray) (c : UInt8) (w : World) : Calls Tryz.prog 96 #[.string sm,.int .u8 (c.toNat : Int)] w fun e w' => ∃ v : Int,e = .returned (.int .i64 v) ∧ Hid (decide (0 ≤ v) = hasB sm c) ∧ w = w' :=
 (Tryz.strings_IndexByte sm (c.toNat : Int) w).mono fun e w' ⟨he,hw⟩ => ⟨_,he,Lib.hid (by rw [byte_back,hasB,← Lib.contains_iff_indexByte]),hw.symm⟩
theorem zBt (s : ByteArray) : s.data.toList.length = s.size:=by rw [Array.length_toList]; rfl
theorem data_at (s : ByteArray) (i : Nat) (h : i < s.size) : s.data.toList[i]'(by rw [zBt]; exact h) = s[i]:=by simp [ByteArray.getElem_eq_getElem_data]
theorem drop_at (s : ByteArray) (i : Nat) (h : i < s.size) : s.data.toList.drop i = s[i] :: s.data.toList.drop (i + 1):=by
 rw [List.drop_eq_getElem_cons (by rw [zBt]; exact h),data_at s i h]
theorem not_any (sm : ByteArray) (c : UInt8) (gs : Nat) (b : Bool) (hb : hasB sm c = !b) (w : World) (hs : w.cell? ⟨gs,0,none⟩ = some (.string sm)) :
  Calls Tryz.prog 135 #[.int .u8 (c.toNat : Int),.pointer (some ⟨gs,0,none⟩)] w fun e w' => e = .returned (.bool b) ∧ w = w':=by
 have HB:=Lib.hid hb
 clear hb
 go_enter Tryz.func135,Tryz.ntmps135
 go_wp2_with fail
 refine (idx_any sm c _).mono ?_
 rintro e_ w1 ⟨v,rfl,HV,rfl⟩
 have t1 : decide (v < 0) = b:=by
  have h:=HV.out
  rw [HB.out] at h
  cases b <;> simp at h ⊢ <;> omega
 go_wp2_with fail
 go_ret
 exact ⟨rfl,rfl⟩
def onlyB (sm s : ByteArray) : Bool:=s.data.toList.all (hasB sm)
theorem take_at (s : ByteArray) (k : Nat) (h : k < s.size) : s.data.toList.take (k + 1) = s.data.toList.take k ++ [s[k]]:=by
 rw [List.take_succ_eq_append_getElem (by rw [zBt]; exact h),data_at s k h]
def BytesAt (w : World) (g : Nat) (s : ByteArray) : Prop:=∀ j (h : j < s.size),w.cell? ⟨g,j,none⟩ = some (.int .u8 (s[j].toNat : Int))
theorem find_any (sm s : ByteArray) (g c0 gs : Nat) (w : World) (hB : BytesAt w g s) (hs : w.cell? ⟨gs,0,none⟩ = some (.string sm)) (hsz : s.size ≤ 140737488351232) :
  Calls Tryz.prog 141 #[.slice (some ⟨g,0,none⟩) s.size c0,.func (.func 135) #[] #[.pointer (some ⟨gs,0,none⟩)]] w fun e w' => ∃ v : Int,e = .returned (.int .i64 v) ∧ Hid (decide (0 ≤ v) = !(onlyB sm s)) ∧ w = w':=by
 have HBY:=Lib.hid hB
 have hw0:=hs
 clear hB
 go_enter Tryz.func141,Tryz.ntmps141
 go_wp2_with fail
 go_loop [8] (fun k => ∃ k' : Nat,k = .int .i64 k' ∧ k' ≤ s.size ∧ Hid ((s.data.toList.take k').all (hasB sm) = true)) (fun k => s.size - (intOf k).toNat)
 case atStart => exact ⟨0,rfl,Nat.zero_le _,Lib.hid rfl⟩
 case round =>
  obtain ⟨k,rfl,hk,HA⟩:=hrel
  by_cases hlt : k < s.size
  ·have hc:=HBY.out k hlt
   cases hb : hasB sm s[k] with
   | true =>
    have HB:=Lib.hid hb
    clear hb
    go_wp2_with fail
    refine (not_any sm s[k] gs false (by rw [HB.out]; rfl) _ hs).mono ?_
    rintro e_ w1 ⟨rfl,rfl⟩
    go_wp2_with fail
    go_round
    case rel => exact ⟨k + 1,by norm_cast,by omega,Lib.hid (by rw [take_at s k hlt,List.all_append,HA.out,List.all_cons,HB.out]; rfl)⟩
    case measure => first | (simp [intOf]; done) | (simp [intOf]; omega)
   | false =>
    have HB:=Lib.hid hb
    clear hb
    go_wp2_with fail
    refine (not_any sm s[k] gs true (by rw [HB.out]; rfl) _ hs).mono ?_
    rintro e_ w1 ⟨rfl,rfl⟩
    go_wp2_with fail
    go_ret
    refine ⟨k,rfl,Lib.hid ?_,rfl⟩
    have h1 : onlyB sm s = false:=by
     unfold onlyB
     rw [List.all_eq_false]
     exact ⟨s[k],by rw [← data_at s k hlt]; exact List.getElem_mem _,by rw [HB.out]; simp⟩
    rw [h1]
    simp
  ·obtain rfl : k = s.size:=by omega
   have hall : onlyB sm s = true:=by
    unfold onlyB
    have h:=HA.out
    rwa [List.take_of_length_le (by rw [zBt]; exact Nat.le_refl _)] at h
   have HALL:=Lib.hid hall
   clear hall
   go_wp2_with fail
   go_ret
   exact ⟨-1,rfl,Lib.hid (by rw [HALL.out]; rfl),rfl⟩
theorem finds_any (sm s : ByteArray) (g c0 gs : Nat) (w : World) (hB : BytesAt w g s) (hs : w.cell? ⟨gs,0,none⟩ = some (.string sm)) (hsz : s.size ≤ 140737488351232) :
  Calls Tryz.prog 134 #[.slice (some ⟨g,0,none⟩) s.size c0,.func (.func 135) #[] #[.pointer (some ⟨gs,0,none⟩)]] w fun e w' => e = .returned (.bool (!(onlyB sm s))) ∧ w = w':=by
 have HBY:=Lib.hid hB
 have HS:=Lib.hid hs
 clear hB hs
 obtain ⟨r,hr⟩ : ∃ r,r = !(onlyB sm s):=⟨_,rfl⟩
 rw [← hr]
 have HR:=Lib.hid hr
 clear hr
 go_enter Tryz.func134,Tryz.ntmps134
 go_wp2_with fail
 refine (find_any sm s g c0 gs _ HBY.out HS.out hsz).mono ?_
 rintro e_ w1 ⟨v,rfl,HV,rfl⟩
 have t1 : decide (0 ≤ v) = r:=by rw [HV.out,HR.out]
 go_wp2_with fail
 go_ret
 exact ⟨rfl,rfl⟩
theorem bytes_below {w W : World} (h : Below w.heap.size w W) (e : TypeId) (s : ByteArray) : Below w.heap.size w (Lib.bytesWorld W e s) :=
 ⟨h.os,h.tape,h.output,by rw [Lib.bytesWorld_size]; have:=h.size; omega,fun b hb => (Lib.bytesWorld_at_old W e s b (by have:=h.size; omega)).trans (h.block b hb)⟩
theorem bytes_at (W : World) (g : Nat) (s : ByteArray) (hg : g = W.heap.size) : BytesAt (Lib.bytesWorld W 5 s) g s:=by
 subst hg
 intro j hj
 rw [Lib.bytesWorld_cell W 5 s j hj]
 have h1 : j < s.data.toList.length:=by rw [zBt]; exact hj
 simp only [List.getD_eq_getElem?_getD,List.getElem?_eq_getElem h1,Option.getD_some]
 rw [data_at s j hj]
theorem zDi (sm s : ByteArray) (hsz : s.size ≤ 140737488351232) (w : World) :
  Calls Tryz.prog 122 #[.string s,.string sm] w fun e w' => e = .returned (.bool (onlyB sm s)) ∧ Below w.heap.size w w':=by
 have hcv:=fun (W : World) => Lib.run_convert_string_bytes (P:=Tryz.prog) W 9 165 5 s Tryz.underlying9 Tryz.underlying165 Tryz.underlying5
 obtain ⟨r,hr⟩ : ∃ r,r = onlyB sm s:=⟨_,rfl⟩
 rw [← hr]
 have HR:=Lib.hid hr
 clear hr
 go_enter Tryz.func122,Tryz.ntmps122
 go_wp2_with fail
 refine (finds_any sm s (w.heap.size + 1) _ w.heap.size _ (bytes_at _ _ s (by simp)) ((Lib.bytesWorld_old _ 5 s _ (by simp)).trans ((zAh (heap_alloc_new w (.cells #[.string sm] 9)) 0).trans rfl)) hsz).mono ?_
 rintro e_ w1 ⟨rfl,rfl⟩
 rw [← HR.out]
 go_wp2_with fail
 go_ret
 exact ⟨by simp,bytes_below (zAa (Below.refl _ _) _) 5 s⟩
def Env (w : World) : Prop:=(∃ m,w.cell? ⟨0,0,none⟩ = some (.int .i64 m)) ∧ 1 ≤ w.heap.size
theorem Env.below {w w' : World} (h : Env w) {n : Nat} (hb : Below n w w') (hn : 1 ≤ n) : Env w':=by
 obtain ⟨⟨m,h0⟩,h4⟩:=h
 exact ⟨⟨m,(hb.cell (p:=⟨0,0,none⟩) (by show 0 < n; omega)).trans h0⟩,Nat.le_trans h4 hb.size⟩
theorem Env.six {w : World} (h : Env w) : 1 ≤ w.heap.size:=h.2
theorem contains_any (s sub : ByteArray) (hs : s.size < 4294967281) (w : World) (hE : Env w) : Calls Tryz.prog 97 #[.string s,.string sub] w fun e w' => e = .returned (.bool (Lib.contains s.data.toList sub.data.toList)) ∧ w = w':=by
 obtain ⟨m,hm⟩:=hE.1
 exact (Tryz.strings_Contains s sub m w hs hm).mono fun e w' ⟨he,hw⟩ => ⟨he,hw.symm⟩
theorem zBN (s : ByteArray) (h : s.size = 0) : s.toList = []:=by
 have e : s = ByteArray.empty:=by
  apply ByteArray.ext
  exact Array.eq_empty_of_size_eq_zero h
 rw [e]
 exact ByteArray.toList_empty
theorem zCb (a : ByteArray) (h : 0 < a.size) : a.toList ≠ []:=by
 unfold ByteArray.toList ByteArray.toList.loop
 rw [if_pos h]
 have : ∀ n i r,r ≠ [] → a.size - i = n → ByteArray.toList.loop a i r ≠ []:=by
  intro n
  induction n with
  | zero => intro i r hr hi; unfold ByteArray.toList.loop; rw [if_neg (by omega)]; simpa using hr
  | succ n ih => intro i r hr hi; unfold ByteArray.toList.loop; split; exact ih _ _ (by simp) (by omega); simpa using hr
 exact this _ _ _ (by simp) rfl
def keptText : ByteArray:=⟨#[32,118,97,114,32,112,114,111,99,32,105,110,116,32,98,111,111,108,32,97,114,114,32,102,117,110,32,105,110,32,111,117,116,32,105,102,32,101,108,115,101,32,119,104,105,108,101,32,99,97,108,108,32,114,101,116,117,114,110,32,116,104,114,111,119,32,116,114,121,32,99,97,116,99,104,32,110,101,119,32,108,101,110,32,116,114,117,101,32,102,97,108,115,101,32]⟩
def digitsT : ByteArray:=⟨#[48,49,50,51,52,53,54,55,56,57]⟩
def partsT : ByteArray:=⟨#[97,98,99,100,101,102,103,104,105,106,107,108,109,110,111,112,113,114,115,116,117,118,119,120,121,122,65,66,67,68,69,70,71,72,73,74,75,76,77,78,79,80,81,82,83,84,85,86,87,88,89,90,95,48,49,50,51,52,53,54,55,56,57]⟩
def spaced (s : ByteArray) : ByteArray:=⟨#[32]⟩ ++ s ++ ⟨#[32]⟩
def keptB (s : ByteArray) : Bool:=decide (s.size ≠ 0) && !hasB s 32 && Lib.contains keptText.data.toList (spaced s).data.toList
theorem idx_32 (s : ByteArray) (w : World) : Calls Tryz.prog 96 #[.string s,.int .u8 32] w fun e w' => ∃ v : Int,e = .returned (.int .i64 v) ∧ Hid (decide (v < 0) = !hasB s 32) ∧ w = w' :=
 (idx_any s 32 w).mono fun e w' ⟨v,he,hv,hw⟩ => ⟨v,he,Lib.hid (by
  rw [← hv.out,Bool.eq_iff_iff]; simp),hw⟩
theorem idx_not (sm : ByteArray) (c : UInt8) (w : World) : Calls Tryz.prog 96 #[.string sm,.int .u8 (c.toNat : Int)] w fun e w' => ∃ v : Int,e = .returned (.int .i64 v) ∧ Hid (decide (v < 0) = !hasB sm c) ∧ w = w' :=
 (idx_any sm c w).mono fun e w' ⟨v,he,hv,hw⟩ => ⟨v,he,Lib.hid (by
  rw [← hv.out,Bool.eq_iff_iff]; simp),hw⟩
theorem kept_is (s : ByteArray) (r : Bool) (hr : keptB s = r) (hsz : s.size ≤ 140737488351232) (w : World) (hE : Env w) :
  Calls Tryz.prog 123 #[.string s] w fun e w' => e = .returned (.bool r) ∧ w = w':=by
 have HE:=Lib.hid hE
 have HR:=Lib.hid hr
 clear hE hr
 by_cases h0 : s.size = 0
 ·have h1:=zBN s h0
  have HF : Hid (false = r):=Lib.hid (by rw [← HR.out]; simp [keptB,h0])
  clear h0
  go_enter Tryz.func123,Tryz.ntmps123
  go_wp2_with fail
  go_ret
  exact ⟨by rw [← HF.out]; rfl,rfl⟩
 ·have h1:=zCb s (by omega)
  have h2 : s.toList.isEmpty = false:=by simpa using h1
  cases hb : hasB s 32 with
  | true =>
   have HF : Hid (false = r):=Lib.hid (by rw [← HR.out]; simp [keptB,hb])
   have HB:=Lib.hid hb
   clear hb
   go_enter Tryz.func123,Tryz.ntmps123
   go_wp2_with fail
   refine (idx_32 s _).mono ?_
   rintro e_ w1 ⟨v,rfl,HV,rfl⟩
   have t1 : decide (v < 0) = false:=by rw [HV.out,HB.out]; rfl
   go_wp2_with fail
   go_ret
   exact ⟨by rw [← HF.out]; rfl,rfl⟩
  | false =>
   have HF : Hid (Lib.contains keptText.data.toList (spaced s).data.toList = r):=Lib.hid (by rw [← HR.out]; simp [keptB,hb,h0])
   have HB:=Lib.hid hb
   clear hb
   go_enter Tryz.func123,Tryz.ntmps123
   go_wp2_with fail
   refine (idx_32 s _).mono ?_
   rintro e_ w1 ⟨v,rfl,HV,rfl⟩
   have t1 : decide (v < 0) = true:=by rw [HV.out,HB.out]; rfl
   go_wp2_with fail
   refine (contains_any keptText (spaced s) (by decide) _ HE.out).mono ?_
   rintro e_ w1 ⟨rfl,rfl⟩
   rw [HF.out]
   go_wp2_with fail
   go_ret
   exact ⟨rfl,rfl⟩
def identB (s : ByteArray) : Bool:=decide (s.size ≠ 0) && decide (s.size ≤ 20) && onlyB partsT s && !hasB digitsT (s.data.getD 0 0) && !keptB s
theorem zDn (s : ByteArray) (h : 0 < s.size) : s[0] = s.data.getD 0 0:=by
 have h2 : 0 < s.data.size:=h
 rw [ByteArray.getElem_eq_getElem_data,Array.getD_eq_getD_getElem?,Array.getElem?_eq_getElem h2]
 rfl
theorem ident_is (s : ByteArray) (r : Bool) (hr : identB s = r) (hsz : s.size ≤ 140737488351232) (w : World) (hE : Env w) :
  Calls Tryz.prog 95 #[.string s] w fun e w' => e = .returned (.bool r) ∧ Below w.heap.size w w':=by
 have HE:=Lib.hid hE
 have HR:=Lib.hid hr
 clear hE hr
 by_cases h0 : s.size = 0
 ·have h1:=zBN s h0
  have HF : Hid (false = r):=Lib.hid (by rw [← HR.out]; simp [identB,h0])
  clear h0
  go_enter Tryz.func95,Tryz.ntmps95
  go_wp2_with fail
  go_ret
  exact ⟨by rw [← HF.out]; rfl,Below.refl _ _⟩
 ·have h1:=zCb s (by omega)
  have h2 : s.toList.isEmpty = false:=by simpa using h1
  have hpos : 0 < s.size:=by omega
  by_cases h20 : s.size ≤ 20
  ·have t1 : decide ((s.size : Int) ≤ 20) = true:=decide_eq_true (by omega)
   cases ho : onlyB partsT s with
   | false =>
    have HF : Hid (false = r):=Lib.hid (by rw [← HR.out]; simp [identB,ho])
    have HO:=Lib.hid ho
    clear ho
    go_enter Tryz.func95,Tryz.ntmps95
    go_wp2_with fail
    refine (zDi partsT s hsz _).mono ?_
    rintro e_ w1 ⟨rfl,hb_⟩
    rw [HO.out]
    have HB:=Lib.hid hb_
    clear hb_
    go_wp2_with fail
    go_ret
    exact ⟨by rw [← HF.out]; rfl,HB.out⟩
   | true =>
    have HO:=Lib.hid ho
    clear ho
    cases hd : hasB digitsT s[0] with
    | true =>
     have HF : Hid (false = r):=Lib.hid (by rw [← HR.out]; simp [identB,← zDn s hpos,hd])
     have HD:=Lib.hid hd
     clear hd
     go_enter Tryz.func95,Tryz.ntmps95
     go_wp2_with fail
     refine (zDi partsT s hsz _).mono ?_
     rintro e_ w1 ⟨rfl,hb_⟩
     rw [HO.out]
     have HB:=Lib.hid hb_
     clear hb_
     go_wp2_with fail
     refine (idx_not digitsT s[0] _).mono ?_
     rintro e_ w1 ⟨v,rfl,HV,rfl⟩
     have t2 : decide (v < 0) = false:=by rw [HV.out,HD.out]; rfl
     go_wp2_with fail
     go_ret
     exact ⟨by rw [← HF.out]; rfl,HB.out⟩
    | false =>
     obtain ⟨kp,hk⟩ : ∃ kp,keptB s = kp:=⟨_,rfl⟩
     have HF : Hid ((!kp) = r):=Lib.hid (by rw [← HR.out]; simp [identB,← zDn s hpos,hd,HO.out,h0,h20,hk])
     have HD:=Lib.hid hd
     have HK:=Lib.hid hk
     clear hd hk
     go_enter Tryz.func95,Tryz.ntmps95
     go_wp2_with fail
     refine (zDi partsT s hsz _).mono ?_
     rintro e_ w1 ⟨rfl,hb_⟩
     rw [HO.out]
     have HB:=Lib.hid hb_
     clear hb_
     go_wp2_with fail
     refine (idx_not digitsT s[0] _).mono ?_
     rintro e_ w1 ⟨v,rfl,HV,rfl⟩
     have t2 : decide (v < 0) = true:=by rw [HV.out,HD.out]; rfl
     go_wp2_with fail
     refine (kept_is s kp HK.out hsz _ (HE.out.below HB.out HE.out.six)).mono ?_
     rintro e_ w1 ⟨rfl,rfl⟩
     go_wp2_with fail
     go_ret
     exact ⟨by rw [← HF.out]; rfl,HB.out⟩
  ·have t1 : decide ((s.size : Int) ≤ 20) = false:=decide_eq_false (by omega)
   have HF : Hid (false = r):=Lib.hid (by rw [← HR.out]; simp [identB,h20])
   go_enter Tryz.func95,Tryz.ntmps95
   go_wp2_with fail
   go_ret
   exact ⟨by rw [← HF.out]; rfl,Below.refl _ _⟩
theorem zAI (a : ByteArray) : a.toList = a.data.toList:=by
 unfold ByteArray.toList
 have : ∀ n i r,a.size - i = n → ByteArray.toList.loop a i r = r.reverse ++ a.data.toList.drop i:=by
  intro n
  induction n with
  | zero =>
   intro i r hi
   unfold ByteArray.toList.loop
   rw [if_neg (by omega),List.drop_eq_nil_of_le (by have : a.data.size = a.size:=rfl; simp; omega)]
   simp
  | succ n ih =>
   intro i r hi
   unfold ByteArray.toList.loop
   have hs : a.data.size = a.size:=rfl
   rw [if_pos (by omega),ih _ _ (by omega),List.drop_eq_getElem_cons (show i < a.data.toList.length by simp; omega)]
   simp [ByteArray.get!]
   rw [getElem!_pos a.data i (by omega)]
 rw [this _ 0 [] rfl]
 simp
def signsT : ByteArray:=⟨#[32,43,32,45,32,42,32,47,32,37,32,61,61,32,33,61,32,60,32,60,61,32,62,32,62,61,32,38,38,32,124,124,32]⟩
def signedB (s : ByteArray) : Bool:=decide (s.size ≠ 0) && !hasB s 32 && Lib.contains signsT.data.toList (spaced s).data.toList
def nodeV (k n at_ : Int) (tx : ByteArray) (A : Option Addr) (len c : Nat) : Value:=.agg #[.int .i64 k,.int .i64 n,.int .i64 at_,.string tx,.slice A len c]
theorem text_empty (k n at_ : Int) (tx : ByteArray) (A : Option Addr) (len c : Nat) (hk : k = 1 ∨ k = 6 ∨ k = 10 ∨ k = 11 ∨ k = 12 ∨ k = 14 ∨ k = 15 ∨ k = 20 ∨ k = 21) (w : World) :
  Calls Tryz.prog 59 #[nodeV k n at_ tx A len c] w fun e w' => e = .returned (.bool tx.toList.isEmpty) ∧ Below w.heap.size w w':=by
 rcases hk with rfl | rfl | rfl | rfl | rfl | rfl | rfl | rfl | rfl
 all_goals
  unfold nodeV
  go_enter Tryz.func59,Tryz.ntmps59
  go_wp2_with fail
  go_ret
  exact ⟨rfl,zAa (Below.refl _ _) _⟩
theorem text_name (k n at_ : Int) (tx : ByteArray) (A : Option Addr) (len c : Nat) (hk : k = 2 ∨ k = 3 ∨ k = 4 ∨ k = 5 ∨ k = 7 ∨ k = 8 ∨ k = 9 ∨ k = 16 ∨ k = 17 ∨ k = 18 ∨ k = 19 ∨ k = 22 ∨ k = 23 ∨ k = 24 ∨ k = 25) (hs : tx.size ≤ 140737488351232) (w : World) (hE : Env w) :
  Calls Tryz.prog 59 #[nodeV k n at_ tx A len c] w fun e w' => e = .returned (.bool (identB tx)) ∧ Below w.heap.size w w':=by
 rcases hk with rfl | rfl | rfl | rfl | rfl | rfl | rfl | rfl | rfl | rfl | rfl | rfl | rfl | rfl | rfl
 all_goals
  have HE:=Lib.hid hE
  clear hE
  unfold nodeV
  go_enter Tryz.func59,Tryz.ntmps59
  go_wp2_with fail
  refine (ident_is tx (identB tx) rfl (by omega) _ (HE.out.below (zAa (Below.refl _ _) _) HE.out.six)).mono ?_
  rintro e_ w1 ⟨rfl,hb_⟩
  have HB:=Lib.hid (zAd (zAa (Below.refl w.heap.size w) _) hb_)
  clear hb_
  go_wp2_with fail
  go_ret
  exact ⟨rfl,HB.out⟩
theorem text_call (n at_ : Int) (tx : ByteArray) (A : Option Addr) (len c : Nat) (hs : tx.size ≤ 140737488351232) (w : World) (hE : Env w) :
  Calls Tryz.prog 59 #[nodeV 13 n at_ tx A len c] w fun e w' => e = .returned (.bool (tx.toList.isEmpty || identB tx)) ∧ Below w.heap.size w w':=by
 have HE:=Lib.hid hE
 clear hE
 unfold nodeV
 by_cases h0 : tx.size = 0
 ·have h1:=zBN tx h0
  go_enter Tryz.func59,Tryz.ntmps59
  go_wp2_with fail
  go_ret
  exact ⟨by rw [h1]; rfl,zAa (Below.refl _ _) _⟩
 ·have h1:=zCb tx (by omega)
  have h2 : tx.toList.isEmpty = false:=by simpa using h1
  have h3 : (tx.toList == []) = false:=by simpa using h1
  have hr : (tx.toList.isEmpty || identB tx) = identB tx:=by rw [h2]; rfl
  rw [hr]
  go_enter Tryz.func59,Tryz.ntmps59
  go_wp2_with fail
  refine (ident_is tx (identB tx) rfl (by omega) _ (HE.out.below (zAa (Below.refl _ _) _) HE.out.six)).mono ?_
  rintro e_ w1 ⟨rfl,hb_⟩
  have HB:=Lib.hid (zAd (zAa (Below.refl w.heap.size w) _) hb_)
  clear hb_
  go_wp2_with fail
  go_ret
  exact ⟨rfl,HB.out⟩
theorem text_one (n at_ : Int) (tx : ByteArray) (A : Option Addr) (len c : Nat) (w : World) :
  Calls Tryz.prog 59 #[nodeV 26 n at_ tx A len c] w fun e w' => e = .returned (.bool (tx.toList == [45] || tx.toList == [33])) ∧ Below w.heap.size w w':=by
 unfold nodeV
 cases h1 : (tx.toList == [45])
 ·cases h2 : (tx.toList == [33])
  ·go_enter Tryz.func59,Tryz.ntmps59
   go_wp2_with fail
   go_ret
   exact ⟨rfl,zAa (Below.refl _ _) _⟩
  ·go_enter Tryz.func59,Tryz.ntmps59
   go_wp2_with fail
   go_ret
   exact ⟨rfl,zAa (Below.refl _ _) _⟩
 ·go_enter Tryz.func59,Tryz.ntmps59
  go_wp2_with fail
  go_ret
  exact ⟨rfl,zAa (Below.refl _ _) _⟩
theorem text_sign (n at_ : Int) (tx : ByteArray) (A : Option Addr) (len c : Nat) (hs : tx.size ≤ 140737488351232) (w : World) (hE : Env w) :
  Calls Tryz.prog 59 #[nodeV 27 n at_ tx A len c] w fun e w' => e = .returned (.bool (signedB tx)) ∧ Below w.heap.size w w':=by
 have HE:=Lib.hid hE
 clear hE
 unfold nodeV
 by_cases h0 : tx.size = 0
 ·have h1:=zBN tx h0
  have hr : signedB tx = false:=by simp [signedB,h0]
  rw [hr]
  clear h0 hr
  go_enter Tryz.func59,Tryz.ntmps59
  go_wp2_with fail
  go_ret
  exact ⟨rfl,zAa (Below.refl _ _) _⟩
 ·have h1:=zCb tx (by omega)
  have h2 : tx.toList.isEmpty = false:=by simpa using h1
  cases hb : hasB tx 32 with
  | true =>
   have hr : signedB tx = false:=by simp [signedB,hb]
   rw [hr]
   have HB:=Lib.hid hb
   clear hb hr
   go_enter Tryz.func59,Tryz.ntmps59
   go_wp2_with fail
   refine (idx_32 tx _).mono ?_
   rintro e_ w1 ⟨v,rfl,HV,rfl⟩
   have t1 : decide (v < 0) = false:=by rw [HV.out,HB.out]; rfl
   go_wp2_with fail
   go_ret
   exact ⟨rfl,zAa (Below.refl _ _) _⟩
  | false =>
   obtain ⟨r,hr⟩ : ∃ r,r = Lib.contains signsT.data.toList (spaced tx).data.toList:=⟨_,rfl⟩
   have hr2 : signedB tx = r:=by rw [hr]; simp [signedB,hb,h0]
   rw [hr2]
   have HR:=Lib.hid hr
   have HB:=Lib.hid hb
   clear hb hr hr2
   go_enter Tryz.func59,Tryz.ntmps59
   go_wp2_with fail
   refine (idx_32 tx _).mono ?_
   rintro e_ w1 ⟨v,rfl,HV,rfl⟩
   have t1 : decide (v < 0) = true:=by rw [HV.out,HB.out]; rfl
   go_wp2_with fail
   refine (contains_any signsT (spaced tx) (by decide) _ (HE.out.below (zAa (Below.refl _ _) _) HE.out.six)).mono ?_
   rintro e_ w1 ⟨rfl,rfl⟩
   rw [← HR.out]
   go_wp2_with fail
   go_ret
   exact ⟨rfl,zAa (Below.refl _ _) _⟩
def textB (k : Int) (tx : ByteArray) : Bool :=
 if k = 1 ∨ k = 6 ∨ k = 10 ∨ k = 11 ∨ k = 12 ∨ k = 14 ∨ k = 15 ∨ k = 20 ∨ k = 21 then tx.toList.isEmpty
 else if k = 13 then tx.toList.isEmpty || identB tx
 else if k = 26 then tx.toList == [45] || tx.toList == [33]
 else if k = 27 then signedB tx
 else identB tx
theorem text_is (k n at_ : Int) (tx : ByteArray) (A : Option Addr) (len c : Nat) (h1 : 1 ≤ k) (h2 : k ≤ 27) (hs : tx.size ≤ 140737488351232) (w : World) (hE : Env w) :
  Calls Tryz.prog 59 #[nodeV k n at_ tx A len c] w fun e w' => e = .returned (.bool (textB k tx)) ∧ Below w.heap.size w w':=by
 unfold textB
 split
 ·rename_i hk; exact text_empty k n at_ tx A len c hk w
 ·split
  ·rename_i hk; subst hk; exact text_call n at_ tx A len c hs w hE
  ·split
   ·rename_i hk; subst hk; exact text_one n at_ tx A len c w
   ·split
    ·rename_i hk; subst hk; exact text_sign n at_ tx A len c hs w hE
    ·exact text_name k n at_ tx A len c (by omega) hs w hE
attribute [local go_sem] zAP zAQ max_two min_two zAK zAJ zAS zAR
def zBf.f (a0 : Int) : Option (Bool):=if a0 ≥ 7 then (some (decide (a0 ≤ 17))) else (some false)
theorem zBf.calls (a0 : Int) (r : Bool) (w : World) (h : zBf.f a0 = some r) :
  Calls Tryz.prog 102 #[.int .i64 a0] w fun e w' => e = .returned (.bool r) ∧ Drawn0 w w':=by
 have H : (if a0 ≥ 7 then (some (decide (a0 ≤ 17))) else (some false)) = some r:=h
 clear h
 by_cases c2 : a0 ≥ 7
 ·rw [if_pos c2] at H
  have c2b0 : decide (7 ≤ a0) = true:=decide_eq_true c2
  clear c2
  obtain rfl:=Option.some.inj H
  go_enter Tryz.func102,Tryz.ntmps102
  go_wp2
  go_ret
  exact ⟨by first | rfl | (simp; done) | (simp [*]; done),by repeat (first | exact Drawn0.refl _ | apply Drawn0.step)⟩
 ·rw [if_neg c2] at H
  have c2b0 : decide (7 ≤ a0) = false:=decide_eq_false c2
  clear c2
  obtain rfl:=Option.some.inj H
  go_enter Tryz.func102,Tryz.ntmps102
  go_wp2
  go_ret
  exact ⟨by first | rfl | (simp; done) | (simp [*]; done),by repeat (first | exact Drawn0.refl _ | apply Drawn0.step)⟩
def zBe.f (a0 : Int) : Option (Bool):=if a0 ≥ 20 then (some (decide (a0 ≤ 27))) else (some false)
theorem zBe.calls (a0 : Int) (r : Bool) (w : World) (h : zBe.f a0 = some r) :
  Calls Tryz.prog 103 #[.int .i64 a0] w fun e w' => e = .returned (.bool r) ∧ Drawn0 w w':=by
 have H : (if a0 ≥ 20 then (some (decide (a0 ≤ 27))) else (some false)) = some r:=h
 clear h
 by_cases c2 : a0 ≥ 20
 ·rw [if_pos c2] at H
  have c2b0 : decide (20 ≤ a0) = true:=decide_eq_true c2
  clear c2
  obtain rfl:=Option.some.inj H
  go_enter Tryz.func103,Tryz.ntmps103
  go_wp2
  go_ret
  exact ⟨by first | rfl | (simp; done) | (simp [*]; done),by repeat (first | exact Drawn0.refl _ | apply Drawn0.step)⟩
 ·rw [if_neg c2] at H
  have c2b0 : decide (20 ≤ a0) = false:=decide_eq_false c2
  clear c2
  obtain rfl:=Option.some.inj H
  go_enter Tryz.func103,Tryz.ntmps103
  go_wp2
  go_ret
  exact ⟨by first | rfl | (simp; done) | (simp [*]; done),by repeat (first | exact Drawn0.refl _ | apply Drawn0.step)⟩
end Go.Proofs.YtkhlfdcjgooogaaGreat.P
