import Derived.Test.YtkhlfdcjgooogaaGreatTyM
import Derived.Laws.MakeOwn
set_option maxRecDepth 100000
set_option maxHeartbeats 16000000
set_option linter.unusedVariables false
set_option linter.unusedSimpArgs false
set_option linter.unusedSectionVars false
namespace Go.Proofs.YtkhlfdcjgooogaaGreat.P
open Go.RowKit Go.Proofs.YtkhlfdcjgooogaaGreatW.PrintWords Go.Proofs.YtkhlfdcjgooogaaGreatW.PrintLast Go.Proofs.YtkhlfdcjgooogaaGreatW.PrintMore
def checkF (ns : List S66) (ol : List Int) (q : Int) : Int :=
 if kdOf ns q = 2 then (if (decide ((glF ns ns.length (nmOf ns q)).getD 0 ≠ q) : Bool) = true then 4 else 0) else
 if kdOf ns q = 3 then (if ((glF ns ns.length (nmOf ns q)).isSome || decide ((prF ns ns.length (nmOf ns q)).getD 0 ≠ q) : Bool) = true then 4 else 0) else
 if kdOf ns q = 4 then (if (decide ((loF ns ol (rd ol q) ns.length (nmOf ns q)).getD 0 ≠ q) : Bool) = true then 4 else 0) else
 if kdOf ns q = 5 then (if (decide ((loF ns ol (rd ol q) ns.length (nmOf ns q)).getD 0 ≠ q) : Bool) = true then 4 else 0) else
 if kdOf ns q = 7 then (namedF ns ol q (kindF ns ol q (nmOf ns q) == exprF ns ol (rd (rd_T66 ns q).f4 0))) else
 if kdOf ns q = 8 then (namedF ns ol q (kindF ns ol q (nmOf ns q) == 3 && allF ns ol 1 (rd_T66 ns q).f4)) else
 if kdOf ns q = 9 then (namedF ns ol q (kindF ns ol q (nmOf ns q) == 1)) else
 if kdOf ns q = 10 then (if allF ns ol 1 ((rd_T66 ns q).f4.drop 1) = true then 0 else 5) else
 if kdOf ns q = 11 then (if allF ns ol 2 ((rd_T66 ns q).f4.take 1) = true then 0 else 5) else
 if kdOf ns q = 12 then (if allF ns ol 2 ((rd_T66 ns q).f4.take 1) = true then 0 else 5) else
 if kdOf ns q = 13 then (callF ns ol q (nmOf ns (rd (rd_T66 ns q).f4 0)) (nmOf ns q) (rd_T66 ns q).f4) else
 if kdOf ns q = 14 then (if (((nOf ns (rd ol q) == 0) == (((rd_T66 ns q).f4.length : Int) == 0)) && allF ns ol (nOf ns (rd ol q)) (rd_T66 ns q).f4) = true then 0 else 5) else
 if kdOf ns q = 15 then (if allF ns ol 1 (rd_T66 ns q).f4 = true then 0 else 5) else
 if kdOf ns q = 16 then (namedF ns ol q (kindF ns ol q (nmOf ns q) == 1)) else
 if kdOf ns q = 17 then (namedF ns ol q (kindF ns ol q (nmOf ns q) == 3 && allF ns ol 1 (rd_T66 ns q).f4)) else
 if kdOf ns q = 22 then (namedF ns ol q true) else
 if kdOf ns q = 23 then (namedF ns ol q (kindF ns ol q (nmOf ns q) == 3 && allF ns ol 1 (rd_T66 ns q).f4)) else
 if kdOf ns q = 24 then (namedF ns ol q (kindF ns ol q (nmOf ns q) == 3)) else
 if kdOf ns q = 25 then (if procF ns (nmOf ns q) = -1 then 3 else if plainF ns (procF ns (nmOf ns q)) = true then 0 else 5) else
 if kdOf ns q = 26 then (if operandsF ns ol (nmOf ns q) (rd_T66 ns q).f4 = true then 0 else 5) else
 if kdOf ns q = 27 then (if operandsF ns ol (nmOf ns q) (rd_T66 ns q).f4 = true then 0 else 5) else
 0
structure PreN (ns : List S66) (ol : List Int) (q : Int) : Prop where
 one : kdOf ns q = 7 ∨ kdOf ns q = 10 ∨ kdOf ns q = 11 ∨ kdOf ns q = 12 ∨ kdOf ns q = 13 → 0 < (rd_T66 ns q).f4.length
 own : kdOf ns q = 4 ∨ kdOf ns q = 5 ∨ kdOf ns q = 14 → rd ol q ≠ -1
 lo : 1 ≤ kdOf ns q
 hi : kdOf ns q ≤ 27
theorem check_is (p : Nat) (At : Option Addr) (ct : Nat) (ns : List S66) (root : Int) (ol : List Int) (q : Int) (h0 : 0 ≤ q) (h1 : q < ns.length) (hKI : KidsIn ns) (hP : PreN ns ol q) (w : World) (hS : Sc p At ct ns root ol w) :
  Calls Tryz.prog 34 #[.pointer (some ⟨p,0,none⟩),.int .i64 q] w fun e w' => e = .returned (.int .i64 (checkF ns ol q)) ∧ Below w.heap.size w w':=by
 unfold checkF
 by_cases k2 : kdOf ns q = 2
 ·rw [if_pos k2]
  exact check_2 p At ct ns root ol q h0 h1 k2 hKI w hS
 rw [if_neg k2]
 by_cases k3 : kdOf ns q = 3
 ·rw [if_pos k3]
  exact check_3 p At ct ns root ol q h0 h1 k3 hKI w hS
 rw [if_neg k3]
 by_cases k4 : kdOf ns q = 4
 ·rw [if_pos k4]
  exact check_4 p At ct ns root ol q h0 h1 k4 hKI (hP.own (by omega)) w hS
 rw [if_neg k4]
 by_cases k5 : kdOf ns q = 5
 ·rw [if_pos k5]
  exact check_5 p At ct ns root ol q h0 h1 k5 hKI (hP.own (by omega)) w hS
 rw [if_neg k5]
 by_cases k7 : kdOf ns q = 7
 ·rw [if_pos k7]
  exact check_7 p At ct ns root ol q h0 h1 k7 hKI (hP.one (by omega)) w hS
 rw [if_neg k7]
 by_cases k8 : kdOf ns q = 8
 ·rw [if_pos k8]
  exact check_8 p At ct ns root ol q h0 h1 k8 hKI w hS
 rw [if_neg k8]
 by_cases k9 : kdOf ns q = 9
 ·rw [if_pos k9]
  exact check_9 p At ct ns root ol q h0 h1 k9 hKI w hS
 rw [if_neg k9]
 by_cases k10 : kdOf ns q = 10
 ·rw [if_pos k10]
  exact check_10 p At ct ns root ol q h0 h1 k10 hKI (hP.one (by omega)) w hS
 rw [if_neg k10]
 by_cases k11 : kdOf ns q = 11
 ·rw [if_pos k11]
  exact check_11 p At ct ns root ol q h0 h1 k11 hKI (hP.one (by omega)) w hS
 rw [if_neg k11]
 by_cases k12 : kdOf ns q = 12
 ·rw [if_pos k12]
  exact check_12 p At ct ns root ol q h0 h1 k12 hKI (hP.one (by omega)) w hS
 rw [if_neg k12]
 by_cases k13 : kdOf ns q = 13
 ·rw [if_pos k13]
  exact check_13 p At ct ns root ol q h0 h1 k13 hKI (hP.one (by omega)) w hS
 rw [if_neg k13]
 by_cases k14 : kdOf ns q = 14
 ·rw [if_pos k14]
  exact check_14 p At ct ns root ol q h0 h1 k14 hKI (hP.own (by omega)) w hS
 rw [if_neg k14]
 by_cases k15 : kdOf ns q = 15
 ·rw [if_pos k15]
  exact check_15 p At ct ns root ol q h0 h1 k15 hKI w hS
 rw [if_neg k15]
 by_cases k16 : kdOf ns q = 16
 ·rw [if_pos k16]
  exact check_16 p At ct ns root ol q h0 h1 k16 hKI w hS
 rw [if_neg k16]
 by_cases k17 : kdOf ns q = 17
 ·rw [if_pos k17]
  exact check_17 p At ct ns root ol q h0 h1 k17 hKI w hS
 rw [if_neg k17]
 by_cases k22 : kdOf ns q = 22
 ·rw [if_pos k22]
  exact check_22 p At ct ns root ol q h0 h1 k22 hKI w hS
 rw [if_neg k22]
 by_cases k23 : kdOf ns q = 23
 ·rw [if_pos k23]
  exact check_23 p At ct ns root ol q h0 h1 k23 hKI w hS
 rw [if_neg k23]
 by_cases k66 : kdOf ns q = 24
 ·rw [if_pos k66]
  exact check_24 p At ct ns root ol q h0 h1 k66 hKI w hS
 rw [if_neg k66]
 by_cases k25 : kdOf ns q = 25
 ·rw [if_pos k25]
  exact check_25 p At ct ns root ol q h0 h1 k25 hKI w hS
 rw [if_neg k25]
 by_cases k26 : kdOf ns q = 26
 ·rw [if_pos k26]
  exact check_26 p At ct ns root ol q h0 h1 k26 hKI w hS
 rw [if_neg k26]
 by_cases k27 : kdOf ns q = 27
 ·rw [if_pos k27]
  exact check_27 p At ct ns root ol q h0 h1 k27 hKI w hS
 rw [if_neg k27]
 have hlo:=hP.lo
 have hhi:=hP.hi
 have hr : kdOf ns q = 1 ∨ kdOf ns q = 6 ∨ kdOf ns q = 18 ∨ kdOf ns q = 19 ∨ kdOf ns q = 20 ∨ kdOf ns q = 21:=by omega
 rcases hr with h | h | h | h | h | h
 ·exact check_1 p At ct ns root ol q h0 h1 h hKI w hS
 ·exact check_6 p At ct ns root ol q h0 h1 h hKI w hS
 ·exact check_18 p At ct ns root ol q h0 h1 h hKI w hS
 ·exact check_19 p At ct ns root ol q h0 h1 h hKI w hS
 ·exact check_20 p At ct ns root ol q h0 h1 h hKI w hS
 ·exact check_21 p At ct ns root ol q h0 h1 h hKI w hS
def keepFirst (f : Nm → Option Int) (s : Nm) (i : Int) : Nm → Option Int:=if (f s).isSome = true then f else upd f s i
theorem zCT (b n : Nat) (f : Nm → Option Int) (s : ByteArray) (hs : s.size ≤ 140737488351232) (i : Int) (hi : (Lit.int .i64 i).wf = true) (hn : n ≤ 100000) (w : World) (h : SMap w b n f) :
  Calls Tryz.prog 63 #[.map (some b),.string s,.int .i64 i] w fun e w' => e = .returned (.tuple #[]) ∧ SMap w' b (n + 1) (keepFirst f s.data.toList i) ∧ w.grownBy w' (some b):=by
 have lk:=h.look2 s hs
 obtain ⟨F,hF⟩ : ∃ F,F = keepFirst f s.data.toList i:=⟨_,rfl⟩
 rw [← hF]
 unfold keepFirst at hF
 obtain ⟨x,hx⟩ : ∃ x,x = f s.data.toList:=⟨_,rfl⟩
 rw [← hx] at lk hF
 have HS:=Lib.hid h
 clear hx h
 cases x with
 | some d =>
  rw [Option.isSome_some,if_pos rfl] at hF
  subst hF
  go_enter Tryz.func63,Tryz.ntmps63
  go_wp2_with fail
  exact ⟨rfl,.tuple #[],by simp [results,Tryz.f63,go_sem],rfl,HS.out.mono (Nat.le_succ _),World.grownBy.refl _ _⟩
 | none =>
  rw [Option.isSome_none,if_neg (by decide)] at hF
  subst hF
  obtain ⟨w',hrun,hp,hg⟩:=HS.out.put hn s hs i hi
  have HP:=Lib.hid hp
  have HG:=Lib.hid hg
  clear hp hg
  go_enter Tryz.func63,Tryz.ntmps63
  go_wp2_with fail
  exact ⟨rfl,.tuple #[],by simp [results,Tryz.f63,go_sem],rfl,HP.out,HG.out⟩
theorem fst_yes (c : Nat → Bool) (key : Nat → Nm) (n : Nat) (h : c n = true) : (fun s => fstI (fun j => c j && decide (key j = s)) (n + 1)) = keepFirst (fun s => fstI (fun j => c j && decide (key j = s)) n) (key n) n:=by
 funext s
 rw [fstI]
 unfold keepFirst
 by_cases hs : s = key n
 ·subst hs
  cases e : fstI (fun j => c j && decide (key j = key n)) n with
  | some d => simp [e]
  | none => simp [e,h,upd]
 ·cases e2 : (fstI (fun j => c j && decide (key j = key n)) n).isSome with
  | true =>
   simp only [e2,if_true]
   cases e : fstI (fun j => c j && decide (key j = s)) n with
   | some d => rfl
   | none => simp [Ne.symm hs]
  | false =>
   simp only [e2,Bool.false_eq_true,if_false,upd,if_neg hs]
   cases e : fstI (fun j => c j && decide (key j = s)) n with
   | some d => rfl
   | none => simp [Ne.symm hs]
theorem fst_no (c : Nat → Bool) (key : Nat → Nm) (n : Nat) (h : c n = false) : (fun s => fstI (fun j => c j && decide (key j = s)) (n + 1)) = (fun s => fstI (fun j => c j && decide (key j = s)) n):=by
 funext s
 rw [fstI]
 cases e : fstI (fun j => c j && decide (key j = s)) n with
 | some d => rfl
 | none => simp [h]
theorem glF_yes (ns : List S66) (n : Nat) (h : kdOf ns n = 2) : glF ns (n + 1) = keepFirst (glF ns n) (nmOf ns n) n:=fst_yes (fun j => decide (kdOf ns j = 2)) (fun j => nmOf ns j) n (by simpa using h)
theorem glF_no (ns : List S66) (n : Nat) (h : kdOf ns n ≠ 2) : glF ns (n + 1) = glF ns n:=fst_no (fun j => decide (kdOf ns j = 2)) (fun j => nmOf ns j) n (by simpa using h)
theorem prF_yes (ns : List S66) (n : Nat) (h : kdOf ns n = 3) : prF ns (n + 1) = keepFirst (prF ns n) (nmOf ns n) n:=fst_yes (fun j => decide (kdOf ns j = 3)) (fun j => nmOf ns j) n (by simpa using h)
theorem prF_no (ns : List S66) (n : Nat) (h : kdOf ns n ≠ 3) : prF ns (n + 1) = prF ns n:=fst_no (fun j => decide (kdOf ns j = 3)) (fun j => nmOf ns j) n (by simpa using h)
theorem loF_eq (ns : List S66) (ol : List Int) (o : Int) (n : Nat) : loF ns ol o n = fun s => fstI (fun j => ((decide (kdOf ns j = 4) || decide (kdOf ns j = 5)) && decide (rd ol j = o)) && decide (nmOf ns j = s)) n:=by
 funext s
 unfold loF
 congr 1
 funext j
 rw [Bool.and_assoc]
theorem loF_yes (ns : List S66) (ol : List Int) (n : Nat) (h : kdOf ns n = 4 ∨ kdOf ns n = 5) : loF ns ol (rd ol n) (n + 1) = keepFirst (loF ns ol (rd ol n) n) (nmOf ns n) n:=by
 rw [loF_eq,loF_eq]
 exact fst_yes (fun j => (decide (kdOf ns j = 4) || decide (kdOf ns j = 5)) && decide (rd ol j = rd ol n)) (fun j => nmOf ns j) n (by simpa using h)
theorem loF_no (ns : List S66) (ol : List Int) (o : Int) (n : Nat) (h : ¬ ((kdOf ns n = 4 ∨ kdOf ns n = 5) ∧ rd ol n = o)) : loF ns ol o (n + 1) = loF ns ol o n:=by
 rw [loF_eq,loF_eq]
 refine fst_no (fun j => (decide (kdOf ns j = 4) || decide (kdOf ns j = 5)) && decide (rd ol j = o)) (fun j => nmOf ns j) n ?_
 cases h2 : ((decide (kdOf ns n = 4) || decide (kdOf ns n = 5)) && decide (rd ol n = o))
 ·rfl
 ·exact absurd (by simpa using h2) h
def OwnEq (ns : List S66) (ps : List Int) (root : Int) (ol : List Int) : Prop :=
 ol.length = ns.length ∧ ∀ i : Int,0 ≤ i → i < ns.length → rd ol i = if kdOf ns i = 3 then i else if i = root then -1 else rd ol (rd ps i)
structure Fx (N bt g r l p gp bo : Nat) : Prop where
 h : N ≤ bt ∧ bt < g ∧ g < r ∧ r < l ∧ l < p ∧ p < gp ∧ gp < bo
structure L1 (w0 : World) (bt g r l p gp bo : Nat) (curp : Array Value) (At : Option Addr) (ct : Nat) (ns : List S66) (root : Int) (ol : List Int) (W : World) (j d : Nat) (cl : List Int) (Lb : Int → Option Nat) (m : Nat) : Prop where
 hp : W.heap[p]? = some (.cells #[.slice At ns.length ct,.int .i64 root,.slice (some ⟨bo,0,none⟩) ns.length ns.length,.map (some g),.map (some r),.map (some l)] 121 (0,0))
 hO : W.heap[bo]? = some (.cells (intCells cl) 3 (0,0))
 hT : W.heap[bt]? = some (.cells #[.slice At ns.length ct,.int .i64 root] 24 (0,0))
 hP : W.heap[gp]? = some (.cells curp 3 (0,0))
 hG : SMap W g 0 (fun _ => none)
 hR : SMap W r 0 (fun _ => none)
 hL : LMap W l m Lb
 hm : m + d ≤ ns.length
 hLs : ∀ o b,Lb o = some b → SMap W b 0 (fun _ => none) ∧ bo < b
 hLi : ∀ o o' b,Lb o = some b → Lb o' = some b → o = o'
 hLd : ∀ o : Int,d ≤ o → o < ns.length → kdOf ns o = 3 → (Lb o).isSome = true
 hlen : cl.length = ns.length
 hcl : ∀ x : Int,j ≤ x → x < ns.length → rd cl x = rd ol x
 hB : Below w0.heap.size w0 W
section
variable {w0 : World} {bt g r l p gp bo : Nat} {curp : Array Value} {At : Option Addr} {ct : Nat} {ns : List S66} {root : Int} {ol : List Int} {W W' : World} {j d : Nat} {cl : List Int} {Lb : Int → Option Nat} {m : Nat}
theorem L1.below (h : L1 w0 bt g r l p gp bo curp At ct ns root ol W j d cl Lb m) (hb : Below W.heap.size W W') : L1 w0 bt g r l p gp bo curp At ct ns root ol W' j d cl Lb m :=
 ⟨zAe h.hp hb,zAe h.hO hb,zAe h.hT hb,zAe h.hP hb,h.hG.of_heap (hb.block _ h.hG.lt),h.hR.of_heap (hb.block _ h.hR.lt),h.hL.of_heap (hb.block _ h.hL.lt),h.hm,fun o b e => ⟨(h.hLs o b e).1.of_heap (hb.block _ (h.hLs o b e).1.lt),(h.hLs o b e).2⟩,h.hLi,h.hLd,h.hlen,h.hcl,zAd h.hB hb⟩
theorem rd_setI (l : List Int) (k : Nat) (x : Int) (v : Int) (hk : k < l.length) (hx : 0 ≤ x) : rd (l.set k v) x = if x = k then v else rd l x:=by
 obtain ⟨i,rfl⟩:=Int.eq_ofNat_of_zero_le hx
 unfold rd
 simp only [Int.toNat_natCast,List.getD_eq_getElem?_getD,List.getElem?_set]
 by_cases h : k = i
 ·subst h
  simp [hk]
 ·rw [if_neg h,if_neg (by omega)]
theorem L1.own (F : Fx w0.heap.size bt g r l p gp bo) (h : L1 w0 bt g r l p gp bo curp At ct ns root ol W (j + 1) d cl Lb m) (hj : j < ns.length) :
  L1 w0 bt g r l p gp bo curp At ct ns root ol (W.setCell ⟨bo,j,none⟩ (.int .i64 (rd ol j))) j d (cl.set j (rd ol j)) Lb m:=by
 have f:=F.h
 have far : ∀ b,b ≠ bo → (W.setCell ⟨bo,j,none⟩ (.int .i64 (rd ol j))).heap[b]? = W.heap[b]?:=fun b hb => Below.heap_setCell W ⟨bo,j,none⟩ _ b hb
 refine ⟨(far p (by omega)).trans h.hp,?_,(far bt (by omega)).trans h.hT,(far gp (by omega)).trans h.hP,h.hG.of_heap (far g (by omega)),h.hR.of_heap (far r (by omega)),h.hL.of_heap (far l (by omega)),h.hm,fun o b e => ⟨(h.hLs o b e).1.of_heap (far b (by have:=(h.hLs o b e).2; omega)),(h.hLs o b e).2⟩,h.hLi,h.hLd,by rw [List.length_set]; exact h.hlen,fun x h1 h2 => ?_,h.hB.setCell (p:=⟨bo,j,none⟩) (by show w0.heap.size ≤ bo; omega) _⟩
 ·have:=blk_set h.hO j (.int .i64 (rd ol j))
  rw [show (intCells cl).setIfInBounds j (.int .i64 (rd ol j)) = intCells (cl.set j (rd ol j)) from by simpa using zBv cl (j : Int) (rd ol j)] at this
  exact this
 ·rw [rd_setI cl j x _ (by rw [h.hlen]; exact hj) (by omega)]
  by_cases hx : x = j
  ·rw [if_pos hx,hx]
  ·rw [if_neg hx]
   exact h.hcl x (by omega) h2
theorem L1.skip (h : L1 w0 bt g r l p gp bo curp At ct ns root ol W j (d + 1) cl Lb m) (hk : kdOf ns d ≠ 3) : L1 w0 bt g r l p gp bo curp At ct ns root ol W j d cl Lb m :=
 { h with
  hm:=by have:=h.hm; omega
  hLd:=fun o h1 h2 h3 => by
   by_cases e : o = d
   ·subst e; exact absurd h3 hk
   ·exact h.hLd o (by omega) h2 h3 }
theorem L1.put (F : Fx w0.heap.size bt g r l p gp bo) (h : L1 w0 bt g r l p gp bo curp At ct ns root ol W j (d + 1) cl Lb m) (b : Nat) (hb : SMap W b 0 (fun _ => none)) (hbo : bo < b) (hf : ∀ o,Lb o ≠ some b) (hL : LMap W' l (m + 1) (upd Lb d b)) (hg : W.grownBy W' (some l)) :
  L1 w0 bt g r l p gp bo curp At ct ns root ol W' j d cl (upd Lb d b) (m + 1):=by
 have f:=F.h
 have far : ∀ b o,W.heap[b]? = some o → b ≠ l → W'.heap[b]? = some o:=fun b o h hb => zCf h hg (by simpa using hb)
 have farS : ∀ b n f,SMap W b n f → b ≠ l → SMap W' b n f:=fun b n f h hb => h.kept hg (by simpa using hb)
 refine ⟨far p _ h.hp (by omega),far bo _ h.hO (by omega),far bt _ h.hT (by omega),far gp _ h.hP (by omega),farS g _ _ h.hG (by omega),farS r _ _ h.hR (by omega),hL,by have:=h.hm; omega,fun o b' e => ?_,fun o o' b' e e' => ?_,fun o h1 h2 h3 => ?_,h.hlen,h.hcl,?_⟩
 ·unfold upd at e
  by_cases ho : o = d
  ·rw [if_pos ho] at e
   cases e
   exact ⟨farS b _ _ hb (by omega),hbo⟩
  ·rw [if_neg ho] at e
   exact ⟨farS b' _ _ (h.hLs o b' e).1 (by have:=(h.hLs o b' e).2; omega),(h.hLs o b' e).2⟩
 ·unfold upd at e e'
  by_cases ho : o = d
  ·rw [if_pos ho] at e
   cases e
   by_cases ho' : o' = d
   ·rw [ho,ho']
   ·rw [if_neg ho'] at e'
    exact absurd e' (hf o')
  ·rw [if_neg ho] at e
   by_cases ho' : o' = d
   ·rw [if_pos ho'] at e'
    cases e'
    exact absurd e (hf o)
   ·rw [if_neg ho'] at e'
    exact h.hLi o o' b' e e'
 ·unfold upd
  by_cases ho : o = d
  ·rw [if_pos ho]; rfl
  ·rw [if_neg ho]
   exact h.hLd o (by omega) h2 h3
 ·exact h.hB.grown hg h.hB.size (fun j hj => by cases hj; omega)
end
structure L2 (w0 : World) (bt g r l p gp bo : Nat) (At : Option Addr) (ct : Nat) (ns : List S66) (root : Int) (ol : List Int) (Lb : Int → Option Nat) (W : World) (i : Nat) : Prop where
 hp : W.heap[p]? = some (.cells #[.slice At ns.length ct,.int .i64 root,.slice (some ⟨bo,0,none⟩) ns.length ns.length,.map (some g),.map (some r),.map (some l)] 121 (0,0))
 hO : W.heap[bo]? = some (.cells (intCells ol) 3 (0,0))
 hT : W.heap[bt]? = some (.cells #[.slice At ns.length ct,.int .i64 root] 24 (0,0))
 hG : SMap W g i (glF ns i)
 hR : SMap W r i (prF ns i)
 hL : LMap W l ns.length Lb
 hLs : ∀ o b,Lb o = some b → SMap W b i (loF ns ol o i) ∧ bo < b
 hLi : ∀ o o' b,Lb o = some b → Lb o' = some b → o = o'
 hLd : ∀ o : Int,0 ≤ o → o < ns.length → kdOf ns o = 3 → (Lb o).isSome = true
 hB : Below w0.heap.size w0 W
section
variable {w0 : World} {bt g r l p gp bo : Nat} {curp : Array Value} {At : Option Addr} {ct : Nat} {ns : List S66} {root : Int} {ol : List Int} {W W' : World} {cl : List Int} {Lb : Int → Option Nat} {m i : Nat}
theorem LMap.mono {w : World} {b n m : Nat} {f : Int → Option Nat} (h : LMap w b n f) (hn : n ≤ m) : LMap w b m f:=by
 obtain ⟨D,hD,r⟩:=h
 exact ⟨D,hD.mono hn,r⟩
theorem L2.start (h : L1 w0 bt g r l p gp bo curp At ct ns root ol W 0 0 cl Lb m) (hol : ol.length = ns.length) : L2 w0 bt g r l p gp bo At ct ns root ol Lb W 0:=by
 have hcl : cl = ol:=by
  refine List.ext_getElem (by rw [h.hlen,hol]) (fun i h1 h2 => ?_)
  have:=h.hcl i (by omega) (by have:=h.hlen; omega)
  simpa [rd,h1,h2] using this
 exact ⟨h.hp,hcl ▸ h.hO,h.hT,h.hG,h.hR,h.hL.mono (by have:=h.hm; omega),fun o b e => h.hLs o b e,h.hLi,fun o h1 h2 h3 => h.hLd o (by omega) h2 h3,h.hB⟩
theorem L2.below (h : L2 w0 bt g r l p gp bo At ct ns root ol Lb W i) (hb : Below W.heap.size W W') : L2 w0 bt g r l p gp bo At ct ns root ol Lb W' i :=
 ⟨zAe h.hp hb,zAe h.hO hb,zAe h.hT hb,h.hG.of_heap (hb.block _ h.hG.lt),h.hR.of_heap (hb.block _ h.hR.lt),h.hL.of_heap (hb.block _ h.hL.lt),fun o b e => ⟨(h.hLs o b e).1.of_heap (hb.block _ (h.hLs o b e).1.lt),(h.hLs o b e).2⟩,h.hLi,h.hLd,zAd h.hB hb⟩
theorem L2.skip (h : L2 w0 bt g r l p gp bo At ct ns root ol Lb W i) (h2 : kdOf ns i ≠ 2) (h3 : kdOf ns i ≠ 3) (h4 : kdOf ns i ≠ 4) (h5 : kdOf ns i ≠ 5) : L2 w0 bt g r l p gp bo At ct ns root ol Lb W (i + 1) :=
 { h with
  hG:=by rw [glF_no ns i h2]; exact h.hG.mono (Nat.le_succ _)
  hR:=by rw [prF_no ns i h3]; exact h.hR.mono (Nat.le_succ _)
  hLs:=fun o b e => ⟨by rw [loF_no ns ol o i (by rintro ⟨h | h,_⟩; exact h4 h; exact h5 h)]; exact (h.hLs o b e).1.mono (Nat.le_succ _),(h.hLs o b e).2⟩ }
theorem L2.turn (F : Fx w0.heap.size bt g r l p gp bo) (h : L2 w0 bt g r l p gp bo At ct ns root ol Lb W i) (b : Nat) (hg : W.grownBy W' (some b)) (hbp : b ≠ p) (hbo : b ≠ bo) (hbt : b ≠ bt) (hbl : b ≠ l) (hbw : w0.heap.size ≤ b)
  (hG : SMap W' g (i + 1) (glF ns (i + 1))) (hR : SMap W' r (i + 1) (prF ns (i + 1))) (hLs : ∀ o b,Lb o = some b → SMap W' b (i + 1) (loF ns ol o (i + 1))) : L2 w0 bt g r l p gp bo At ct ns root ol Lb W' (i + 1):=by
 have far : ∀ b' o,W.heap[b']? = some o → b' ≠ b → W'.heap[b']? = some o:=fun b' o h hb => zCf h hg (by simpa using hb)
 exact ⟨far p _ h.hp (Ne.symm hbp),far bo _ h.hO (Ne.symm hbo),far bt _ h.hT (Ne.symm hbt),hG,hR,h.hL.kept hg (by simpa using Ne.symm hbl),fun o b e => ⟨hLs o b e,(h.hLs o b e).2⟩,h.hLi,h.hLd,h.hB.grown hg h.hB.size (fun j hj => by cases hj; exact hbw)⟩
theorem L2.glob (F : Fx w0.heap.size bt g r l p gp bo) (h : L2 w0 bt g r l p gp bo At ct ns root ol Lb W i) (hk : kdOf ns i = 2) (hS : SMap W' g (i + 1) (keepFirst (glF ns i) (nmOf ns i) i)) (hg : W.grownBy W' (some g)) : L2 w0 bt g r l p gp bo At ct ns root ol Lb W' (i + 1):=by
 have f:=F.h
 refine h.turn F g hg (by omega) (by omega) (by omega) (by omega) (by omega) (by rw [glF_yes ns i hk]; exact hS) ?_ (fun o b e => ?_)
 ·rw [prF_no ns i (by omega)]
  exact (h.hR.kept hg (by simp; omega)).mono (Nat.le_succ _)
 ·rw [loF_no ns ol o i (by rintro ⟨h | h,_⟩ <;> omega)]
  exact ((h.hLs o b e).1.kept hg (by have:=(h.hLs o b e).2; simp; omega)).mono (Nat.le_succ _)
theorem L2.proc (F : Fx w0.heap.size bt g r l p gp bo) (h : L2 w0 bt g r l p gp bo At ct ns root ol Lb W i) (hk : kdOf ns i = 3) (hS : SMap W' r (i + 1) (keepFirst (prF ns i) (nmOf ns i) i)) (hg : W.grownBy W' (some r)) : L2 w0 bt g r l p gp bo At ct ns root ol Lb W' (i + 1):=by
 have f:=F.h
 refine h.turn F r hg (by omega) (by omega) (by omega) (by omega) (by omega) ?_ (by rw [prF_yes ns i hk]; exact hS) (fun o b e => ?_)
 ·rw [glF_no ns i (by omega)]
  exact (h.hG.kept hg (by simp; omega)).mono (Nat.le_succ _)
 ·rw [loF_no ns ol o i (by rintro ⟨h | h,_⟩ <;> omega)]
  exact ((h.hLs o b e).1.kept hg (by have:=(h.hLs o b e).2; simp; omega)).mono (Nat.le_succ _)
theorem L2.loc (F : Fx w0.heap.size bt g r l p gp bo) (h : L2 w0 bt g r l p gp bo At ct ns root ol Lb W i) (hk : kdOf ns i = 4 ∨ kdOf ns i = 5) (b : Nat) (hb : Lb (rd ol i) = some b) (hS : SMap W' b (i + 1) (keepFirst (loF ns ol (rd ol i) i) (nmOf ns i) i)) (hg : W.grownBy W' (some b)) : L2 w0 bt g r l p gp bo At ct ns root ol Lb W' (i + 1):=by
 have f:=F.h
 have hbb:=(h.hLs _ _ hb).2
 refine h.turn F b hg (by omega) (by omega) (by omega) (by omega) (by omega) ?_ ?_ (fun o b' e => ?_)
 ·rw [glF_no ns i (by omega)]
  exact (h.hG.kept hg (by simp; omega)).mono (Nat.le_succ _)
 ·rw [prF_no ns i (by omega)]
  exact (h.hR.kept hg (by simp; omega)).mono (Nat.le_succ _)
 ·by_cases ho : o = rd ol i
  ·subst ho
   rw [hb] at e
   cases e
   rw [loF_yes ns ol i hk]
   exact hS
  ·rw [loF_no ns ol o i (fun h => ho h.2.symm)]
   refine ((h.hLs o b' e).1.kept hg ?_).mono (Nat.le_succ _)
   intro hh
   cases hh
   exact ho (h.hLi _ _ _ e hb)
theorem L2.done (h : L2 w0 bt g r l p gp bo At ct ns root ol Lb W ns.length) (hown : OwnOk ns ol) (hC : Kd.C k66 w0 At ns.length ns) (hct : ns.length ≤ ct) (hn : ns.length ≤ 4000) (hs : ∀ x ∈ ns,x.f3.size ≤ 140737488351232) : Sc p At ct ns root ol W :=
 ⟨bo,g,r,l,Lb,h.hp,h.hO,hown,h.hG,h.hR,h.hL,fun o b e => (h.hLs o b e).1,h.hLd,Kd.C_below hC h.hB,hct,hn,hs⟩
end
end Go.Proofs.YtkhlfdcjgooogaaGreat.P
