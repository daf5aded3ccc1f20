import Derived.Test.YtkhlfdcjgooogaaTyU
import Derived.Test.YtkhlfdcjgooogaaTrB
import Derived.Laws.LoneSync
import Derived.Outline
import Derived.Lib.Hide
import Derived.Deep.RegionHeld3
import Derived.BigQuiet
set_option linter.unusedVariables false
set_option linter.unusedSimpArgs false
namespace Go.Proofs.Ytkhlfdcjgooogaa.P
open Go.RowKit Go.Proofs.YtkhlfdcjgooogaaW.PrintWords Go.Proofs.YtkhlfdcjgooogaaW.PrintLast Go.Proofs.YtkhlfdcjgooogaaW.PrintMore
set_option maxRecDepth 100000 in
set_option maxHeartbeats 8000000 in
theorem within_is (At : Option Addr) (ct : Nat) (ns : List S101) (root : Int) (hb : rtB ns root true) (q : Int) (h0 : 0 ≤ q) (h1 : q < ns.length) (w : World) (hC : Kd.C k101 w At ns.length ns) (hct : ns.length ≤ ct) (hE : Env w) :
  Calls Try.prog 55 #[.agg #[.slice At ns.length ct, .int .i64 root], .int .i64 q] w fun e w' => e = .returned (.bool true) ∧ Below w.heap.size w w' := by
 have HB0 := Lib.hid (fun o => below_alloc (Below.refl w.heap.size w) o)
 have HX := Lib.hid (fun o => right_b At ct ns root true hb (w.alloc o) (Kd.C_alloc hC o) hct (hE.below (below_alloc (Below.refl _ _) _) hE.six))
 clear hC hE hb
 go_enter Try.func55, Try.ntmps55
 go_wp2_with fail
 refine (HX.out _).mono ?_
 rintro e_ W1 ⟨rfl, hb_⟩
 have HB1 := Lib.hid (below_step (HB0.out _) hb_)
 clear hb_
 go_wp2_with fail
 go_ret
 exact ⟨rfl, HB1.out⟩
theorem box_is (At : Option Addr) (ct : Nat) (ns : List S101) (root : Int) (w W : World) (hW : W = w.alloc (.cells #[.slice At ns.length ct, .int .i64 root] 69)) :
  Below w.heap.size w W ∧ W.heap[w.heap.size]? = some (.cells #[.slice At ns.length ct, .int .i64 root] 69 (0, 0)) := by
 rw [hW]
 exact ⟨below_alloc (Below.refl _ _) _, blk_new w _⟩
set_option maxRecDepth 100000 in
set_option maxHeartbeats 8000000 in
theorem Type_is (At : Option Addr) (ct : Nat) (ns : List S101) (root : Int) (ol : List Int) (hR : Rt ns root ol) (hb : rtB ns root true) (q : Int) (h0 : 0 ≤ q) (h1 : q < ns.length) (w : World) (hC : Kd.C k101 w At ns.length ns) (hct : ns.length ≤ ct) (hE : Env w) :
  Calls Try.prog 30 #[.agg #[.slice At ns.length ct, .int .i64 root], .int .i64 q] w fun e w' => e = .returned (.int .i64 (exprF ns ol q)) ∧ Below w.heap.size w w' := by
 obtain ⟨W0, hW0⟩ : ∃ W0, W0 = w.alloc (.cells #[.slice At ns.length ct, .int .i64 root] 69) := ⟨_, rfl⟩
 have HB0 := Lib.hid (box_is At ct ns root w W0 hW0).1
 have X0 := Lib.hid (box_is At ct ns root w W0 hW0).2
 have HW0 := Lib.hid hW0
 have HR := Lib.hid hR
 have HC := Lib.hid hC
 have HE := Lib.hid hE
 have HRB := Lib.hid hb
 clear hW0 hR hC hE hb
 go_enter Try.func30, Try.ntmps30
 go_wp2_with fail
 rw [← HW0.out]
 refine (within_is At ct ns root HRB.out q h0 h1 W0 (Kd.C_below HC.out HB0.out) hct (HE.out.below HB0.out HE.out.six)).mono ?_
 rintro e_ W1 ⟨rfl, hb_⟩
 have HB1 := Lib.hid (below_step HB0.out hb_)
 have X1 := Lib.hid (blk_below X0.out hb_)
 clear hb_ HB0 X0 HW0
 have c0 : W1.cell? ⟨w.heap.size, 0, none⟩ = some (.slice At ns.length ct) := (blk_cell X1.out 0).trans rfl
 have c1 : W1.cell? ⟨w.heap.size, 1, none⟩ = some (.int .i64 root) := (blk_cell X1.out 1).trans rfl
 go_wp2_with fail
 refine (learn_rt At ct ns root ol HR.out W1 (Kd.C_below HC.out HB1.out) hct).mono ?_
 rintro e_ W2 ⟨p, rfl, hs_, hb_⟩
 have HB2 := Lib.hid (below_step HB1.out hb_)
 have HX := Lib.hid (expr_is p At ct ns root ol q h0 h1 W2 hs_)
 clear hb_ hs_ HB1 X1 c0 c1
 go_wp2_with fail
 refine HX.out.mono ?_
 rintro e_ W3 ⟨rfl, hb_⟩
 have HB3 := Lib.hid (below_step HB2.out hb_)
 clear hb_
 go_wp2_with fail
 go_ret
 exact ⟨rfl, HB3.out⟩
set_option maxRecDepth 100000 in
set_option maxHeartbeats 8000000 in
theorem Procedure_is (At : Option Addr) (ct : Nat) (ns : List S101) (root : Int) (ol : List Int) (hR : Rt ns root ol) (hb : rtB ns root true) (s : ByteArray) (hs : s.size ≤ 140737488351232) (w : World) (hC : Kd.C k101 w At ns.length ns) (hct : ns.length ≤ ct) (hE : Env w) :
  Calls Try.prog 86 #[.agg #[.slice At ns.length ct, .int .i64 root], .string s] w fun e w' => e = .returned (.int .i64 (procF ns s.data.toList)) ∧ Below w.heap.size w w' := by
 obtain ⟨W0, hW0⟩ : ∃ W0, W0 = w.alloc (.cells #[.slice At ns.length ct, .int .i64 root] 69) := ⟨_, rfl⟩
 have HB0 := Lib.hid (box_is At ct ns root w W0 hW0).1
 have X0 := Lib.hid (box_is At ct ns root w W0 hW0).2
 have HW0 := Lib.hid hW0
 have HR := Lib.hid hR
 have HC := Lib.hid hC
 have HE := Lib.hid hE
 have HRB := Lib.hid hb
 clear hW0 hR hC hE hb
 go_enter Try.func86, Try.ntmps86
 go_wp2_with fail
 rw [← HW0.out]
 refine (right_b At ct ns root true HRB.out W0 (Kd.C_below HC.out HB0.out) hct (HE.out.below HB0.out HE.out.six)).mono ?_
 rintro e_ W1 ⟨rfl, hb_⟩
 have HB1 := Lib.hid (below_step HB0.out hb_)
 have X1 := Lib.hid (blk_below X0.out hb_)
 clear hb_ HB0 X0 HW0
 have c0 : W1.cell? ⟨w.heap.size, 0, none⟩ = some (.slice At ns.length ct) := (blk_cell X1.out 0).trans rfl
 have c1 : W1.cell? ⟨w.heap.size, 1, none⟩ = some (.int .i64 root) := (blk_cell X1.out 1).trans rfl
 go_wp2_with fail
 refine (learn_rt At ct ns root ol HR.out W1 (Kd.C_below HC.out HB1.out) hct).mono ?_
 rintro e_ W2 ⟨p, rfl, hs_, hb_⟩
 have HB2 := Lib.hid (below_step HB1.out hb_)
 have HX := Lib.hid (proc_is p At ct ns root ol s hs W2 hs_)
 clear hb_ hs_ HB1 X1 c0 c1
 go_wp2_with fail
 refine HX.out.mono ?_
 rintro e_ W3 ⟨rfl, hb_⟩
 have HB3 := Lib.hid (below_step HB2.out hb_)
 clear hb_
 go_wp2_with fail
 go_ret
 exact ⟨rfl, HB3.out⟩
abbrev NV := ByteArray × Int × Int
def kNV : Kd NV := Kd.pair Kd.string (Kd.pair (Kd.int .i64) (Kd.int .i64))
theorem kNV_open {w : World} {x : NV} {cs : List Value} (h : kNV.K w x cs) : cs = [.string x.1, .int .i64 x.2.1, .int .i64 x.2.2] := by
 obtain ⟨c0, r0, rfl, h0, c1, r1, rfl, h1, h2⟩ := h
 have e0 : c0 = [.string x.1] := h0
 have e1 : c1 = [.int .i64 x.2.1] := h1
 have e2 : r1 = [.int .i64 x.2.2] := h2
 rw [e0, e1, e2]
 rfl
def zNV : NV := (⟨#[]⟩, 0, 0)
theorem nv_at {w : World} {A : Option Addr} {l : List NV} (h : Kd.C kNV w A l.length l) (i : Nat) (hi : i < l.length) :
  ∃ ad, A = some ad ∧ w.cell? (ad.add (i * 3)) = some (.string l[i].1) ∧ w.cell? ⟨(ad.add (i * 3)).block, (ad.add (i * 3)).off + 1, none⟩ = some (.int .i64 l[i].2.1) ∧ w.cell? ⟨(ad.add (i * 3)).block, (ad.add (i * 3)).off + 2, none⟩ = some (.int .i64 l[i].2.2) := by
 obtain ⟨ad, c, e, _, hK, hc0⟩ := Kd.C_get h zNV (i : Int) (by omega) (by omega)
 have hc : ∀ j u, c[j]? = some u → w.cell? (ad.add (i * 3 + j)) = some u := fun j u hj => by have := hc0 j u hj; rwa [Int.toNat_natCast] at this
 have hl : l.getD (i : Int).toNat zNV = l[i] := by simp [hi]
 rw [hl] at hK
 have hcs := kNV_open hK
 subst hcs
 exact ⟨ad, e, hc 0 _ rfl, by rw [← add_field _ _ 1 (by omega)]; exact hc 1 _ rfl, by rw [← add_field _ _ 2 (by omega)]; exact hc 2 _ rfl⟩
def nameF (l : List NV) (s : Nm) : Int × Int := match l.find? (fun x => decide (x.1.data.toList = s)) with
 | some x => x.2
 | none => (0, 0)
theorem eqB_is (t s : ByteArray) : (t.toList == s.toList) = decide (t.data.toList = s.data.toList) := by
 rw [toList_data, toList_data]
 by_cases h : t.data.toList = s.data.toList
 ·rw [h]; simp
 ·rw [decide_eq_false h]; exact beq_eq_false_iff_ne.2 h
set_option maxRecDepth 100000 in
set_option maxHeartbeats 8000000 in
theorem name1_is (b : Nat) (t s : ByteArray) (k m : Int) (w : World) (h : w.cell? ⟨b, 0, none⟩ = some (.string s)) :
  Calls Try.prog 106 #[.agg #[.string t, .int .i64 k, .int .i64 m], .pointer (some ⟨b, 0, none⟩)] w fun e w' => e = .returned (.bool (decide (t.data.toList = s.data.toList))) ∧ Below w.heap.size w w' := by
 have hb : b < w.heap.size := World.block_lt_of_cell? w _ h
 have h1 : (w.alloc (.cells #[.string t, .int .i64 k, .int .i64 m] 114)).cell? ⟨b, 0, none⟩ = some (.string s) := pw_cell_below (below_alloc (Below.refl _ _) _) h
 go_enter Try.func106, Try.ntmps106
 go_wp2_with fail
 go_ret
 exact ⟨by rw [← eqB_is]; rfl, below_alloc (Below.refl _ _) _⟩
set_option maxRecDepth 100000 in
set_option maxHeartbeats 8000000 in
theorem nameFind_is (b : Nat) (A : Option Addr) (c : Nat) (l : List NV) (hl : l.length ≤ 1000000) (hc : l.length ≤ c) (s : ByteArray) (w : World) (hC : Kd.C kNV w A l.length l) (h : w.cell? ⟨b, 0, none⟩ = some (.string s)) :
  Calls Try.prog 105 #[.slice A l.length c, .func (.func 106) #[] #[.pointer (some ⟨b, 0, none⟩)]] w fun e w' => ∃ v : Int, e = .returned (.int .i64 v) ∧ Hid ((v = -1 ∧ nameF l s.data.toList = (0, 0)) ∨ ∃ i : Nat, v = i ∧ ∃ hi : i < l.length, l[i].2 = nameF l s.data.toList) ∧ Below w.heap.size w w' := by
 have HC := Lib.hid hC
 have HS := Lib.hid h
 clear hC h
 go_enter Try.func105, Try.ntmps105
 go_wp2_with fail
 go_loopg [8] (l.length + 1) (fun kq v8 W => ∃ i : Nat, v8 = .int .i64 i ∧ i ≤ l.length ∧ Hid (i + kq = l.length + 1) ∧ Hid (∀ x ∈ l.take i, x.1.data.toList ≠ s.data.toList) ∧ Hid (Below w.heap.size w W))
 case atStart => exact ⟨0, rfl, Nat.zero_le _, Lib.hid (by omega), Lib.hid (fun x hx => by simp at hx), Lib.hid (Below.refl _ _)⟩
 case round =>
  obtain ⟨i, rfl, hi, HN, HA, HB⟩ := hrel
  by_cases hlt : i < l.length
  ·obtain ⟨ad, eA, z0, z1, z2⟩ := nv_at (Kd.C_below HC.out HB.out) i hlt
   have htk : l.take (i + 1) = l.take i ++ [l[i]] := List.take_succ_eq_append_getElem hlt
   have hfi : (∀ x ∈ l.take i, x.1.data.toList ≠ s.data.toList) → l[i].1.data.toList = s.data.toList → l[i].2 = nameF l s.data.toList := fun h1 h2 => by
    have : l = l.take i ++ l[i] :: l.drop (i + 1) := by rw [← List.drop_eq_getElem_cons hlt, List.take_append_drop]
    have hf : l.find? (fun x => decide (x.1.data.toList = s.data.toList)) = some l[i] := by
     refine (congrArg (List.find? (fun x => decide (x.1.data.toList = s.data.toList))) this).trans ?_
     rw [List.find?_append, List.find?_eq_none.2 (fun x hx => by rw [decide_eq_false (h1 x hx)]; decide), List.find?_cons_of_pos (by exact decide_eq_true h2)]
     rfl
    unfold nameF
    rw [hf]
   have HFI := Lib.hid hfi
   have HTK := Lib.hid htk
   obtain ⟨x, hx⟩ : ∃ x, x = l[i] := ⟨_, rfl⟩
   rw [← hx] at z0 z1 z2 HFI HTK
   obtain ⟨t, k, m⟩ := x
   dsimp only at z0 z1 z2 HFI
   have HX := Lib.hid (name1_is b t s k m wr ((HB.out.cell (World.block_lt_of_cell? w _ HS.out)).trans HS.out))
   have HXX := Lib.hid hx
   cases eA
   clear htk hfi hx
   cases hok : decide (t.data.toList = s.data.toList) with
   | false =>
    rw [hok] at HX
    have HOK := Lib.hid (of_decide_eq_false hok)
    clear hok
    go_wp2_with fail
    refine HX.out.mono ?_
    rintro e_ W2 ⟨rfl, hb_⟩
    have HB2 := Lib.hid (below_step HB.out hb_)
    clear hb_
    go_wp2_with fail
    go_roundg (gk - 1)
    case measure => have := HN.out; omega
    case rel => exact ⟨i + 1, by norm_cast, hlt, Lib.hid (by have := HN.out; omega), Lib.hid (by
     intro x hx
     rw [HTK.out] at hx
     rcases List.mem_append.1 hx with hx | hx
     ·exact HA.out x hx
     ·rw [List.mem_singleton.1 hx]
      exact HOK.out), HB2⟩
   | true =>
    rw [hok] at HX
    have HOK := Lib.hid (of_decide_eq_true hok)
    clear hok
    go_wp2_with fail
    refine HX.out.mono ?_
    rintro e_ W2 ⟨rfl, hb_⟩
    have HB2 := Lib.hid (below_step HB.out hb_)
    clear hb_
    go_wp2_with fail
    go_ret
    exact ⟨i, rfl, Lib.hid (.inr ⟨i, rfl, hlt, by rw [← HXX.out]; exact HFI.out HA.out HOK.out⟩), HB2.out⟩
  ·obtain rfl : i = l.length := by omega
   have hall := HA.out
   rw [List.take_length] at hall
   have HALL := Lib.hid hall
   clear hall
   go_wp2_with fail
   go_ret
   exact ⟨-1, rfl, Lib.hid (.inl ⟨rfl, by unfold nameF; rw [List.find?_eq_none.2 (fun x hx => by rw [decide_eq_false (HALL.out x hx)]; decide)]⟩), HB.out⟩
set_option maxRecDepth 100000 in
set_option maxHeartbeats 8000000 in
theorem name_is (At : Option Addr) (n ct : Nat) (root : Int) (An : Option Addr) (cn : Nat) (l : List NV) (hl : l.length ≤ 1000000) (hc : l.length ≤ cn) (Bh : Nat) (s : ByteArray) (w : World) (hC : Kd.C kNV w An l.length l) :
  Calls Try.prog 85 #[.agg #[.slice At n ct, .int .i64 root, .slice An l.length cn, .pointer (some ⟨Bh, 0, none⟩)], .string s] w fun e w' => e = .returned (.agg #[.int .i64 (nameF l s.data.toList).1, .int .i64 (nameF l s.data.toList).2]) ∧ Below w.heap.size w w' := by
 have hmf : ∀ (fn : Fn) (first cap : Array Value) (w : World), (Instr.makeFunc fn first cap).run Try.prog w = .ok (.func fn first cap) w := fun _ _ _ _ => rfl
 have hb0 : Below w.heap.size w (((w.alloc (.cells #[.slice At n ct, .int .i64 root, .slice An l.length cn, .pointer (some ⟨Bh, 0, none⟩)] 110)).alloc (.cells #[.string s] 9)).alloc (.cells #[.int .i64 0, .int .i64 0] 23)) := below_alloc (below_alloc (below_alloc (Below.refl _ _) _) _) _
 have x0 := blk_alloc (blk_alloc (blk_new w (.cells #[.slice At n ct, .int .i64 root, .slice An l.length cn, .pointer (some ⟨Bh, 0, none⟩)] 110)) (.cells #[.string s] 9)) (.cells #[.int .i64 0, .int .i64 0] 23)
 have x1 := blk_alloc (blk_new (w.alloc (.cells #[.slice At n ct, .int .i64 root, .slice An l.length cn, .pointer (some ⟨Bh, 0, none⟩)] 110)) (.cells #[.string s] 9)) (.cells #[.int .i64 0, .int .i64 0] 23)
 have x2 := blk_new ((w.alloc (.cells #[.slice At n ct, .int .i64 root, .slice An l.length cn, .pointer (some ⟨Bh, 0, none⟩)] 110)).alloc (.cells #[.string s] 9)) (.cells #[.int .i64 0, .int .i64 0] 23)
 have e1 : (w.alloc (.cells #[.slice At n ct, .int .i64 root, .slice An l.length cn, .pointer (some ⟨Bh, 0, none⟩)] 110)).heap.size = w.heap.size + 1 := by simp
 have e2 : ((w.alloc (.cells #[.slice At n ct, .int .i64 root, .slice An l.length cn, .pointer (some ⟨Bh, 0, none⟩)] 110)).alloc (.cells #[.string s] 9)).heap.size = w.heap.size + 1 + 1 := by simp
 rw [e1] at x1
 rw [e2] at x2
 obtain ⟨W0, hW0⟩ : ∃ W0, W0 = ((w.alloc (.cells #[.slice At n ct, .int .i64 root, .slice An l.length cn, .pointer (some ⟨Bh, 0, none⟩)] 110)).alloc (.cells #[.string s] 9)).alloc (.cells #[.int .i64 0, .int .i64 0] 23) := ⟨_, rfl⟩
 rw [← hW0] at hb0 x0 x1 x2
 have HB0 := Lib.hid hb0
 have X0 := Lib.hid x0
 have X2 := Lib.hid x2
 have HW0 := Lib.hid hW0
 have HC := Lib.hid hC
 have HF := Lib.hid (nameFind_is (w.heap.size + 1) An cn l hl hc s W0 (Kd.C_below hC hb0) ((blk_cell x1 0).trans rfl))
 have q0 : W0.cell? ⟨w.heap.size, 2, none⟩ = some (.slice An l.length cn) := (blk_cell x0 2).trans rfl
 have HQ := Lib.hid hW0
 rw [hW0] at q0
 obtain ⟨r, hr⟩ : ∃ r, r = nameF l s.data.toList := ⟨_, rfl⟩
 rw [← hr] at HF ⊢
 clear hb0 x0 x1 x2 hW0 e1 e2 hC hr
 go_enter Try.func85, Try.ntmps85
 go_wp2_with fail
 rw [← HW0.out]
 clear q0
 refine HF.out.mono ?_
 rintro e_ W1 ⟨v, rfl, HV, hb_⟩
 have HB1 := Lib.hid (below_step HB0.out hb_)
 have X21 := Lib.hid (blk_below X2.out hb_)
 have q1 : W1.cell? ⟨w.heap.size, 2, none⟩ = some (.slice An l.length cn) := (blk_cell (blk_below X0.out hb_) 2).trans rfl
 have d0 : W1.cell? ⟨w.heap.size + 1 + 1, 0, none⟩ = some (.int .i64 0) := (blk_cell X21.out 0).trans rfl
 have d1 : W1.cell? ⟨w.heap.size + 1 + 1, 1, none⟩ = some (.int .i64 0) := (blk_cell X21.out 1).trans rfl
 have f0 := blk_frozen X21.out 0
 have f1 := blk_frozen X21.out 1
 clear hb_
 rcases HV.out with ⟨rfl, hr⟩ | ⟨i, rfl, hi, hr⟩
 ·subst hr
  clear HV HF
  go_wp2_with fail
  refine bodyPost_ret (results_cell_row rfl _ _ (w.heap.size + 1 + 1) 23 #[.int .i64 0, .int .i64 0] (0, 0) _ rfl (blk_put (blk_put X21.out 0 _ rfl) 1 _ rfl) Try.underlying23 rfl (by kernel_rfl)) rfl ?_
  exact ⟨rfl, (HB1.out.setCell (by show w.heap.size ≤ w.heap.size + 1 + 1; omega) _).setCell (by show w.heap.size ≤ w.heap.size + 1 + 1; omega) _⟩
 ·obtain ⟨ad, eA, z0, z1, z2⟩ := nv_at (Kd.C_below HC.out HB1.out) i hi
  rw [hr] at z1 z2
  obtain ⟨k, m⟩ := r
  cases eA
  have hin : (i : Int) < l.length := by omega
  clear HV HF hr z0
  go_wp2_with fail
  refine bodyPost_ret (results_cell_row rfl _ _ (w.heap.size + 1 + 1) 23 #[.int .i64 k, .int .i64 m] (0, 0) _ rfl (blk_put (blk_put X21.out 0 _ rfl) 1 _ rfl) Try.underlying23 rfl (by kernel_rfl)) rfl ?_
  exact ⟨rfl, (HB1.out.setCell (by show w.heap.size ≤ w.heap.size + 1 + 1; omega) _).setCell (by show w.heap.size ≤ w.heap.size + 1 + 1; omega) _⟩
theorem getD_lt {α : Type} (l : List α) (d : α) {i : Nat} (h : i < l.length) : l.getD i d = l[i] := by simp [List.getD_eq_getElem?_getD, h]
def ints (xs : List Int) : List Value := xs.map (Value.int .i64)
def rows : List (Nat × Nat) → List (List Int) → List Value
 | g :: gs, xs :: L => .slice (some ⟨g.1, 0, none⟩) xs.length g.2 :: rows gs L
 | _, _ => []
def cellsOf : List (List Int) → Int
 | [] => 0
 | xs :: L => 1 + xs.length + cellsOf L
structure Arrs (W : World) (ok : Nat → Prop) (v : Value) (gs : List (Nat × Nat)) (L : List (List Int)) : Prop where
 own : W.ownsRow 0 70 1 v L.length (rows gs L)
 vok : ∀ k, v.ownBlock = some k → ok k
 len : gs.length = L.length
 nd : (gs.map Prod.fst).Nodup
 at_ : ∀ j (h : j < gs.length) (h' : j < L.length), ok gs[j].1 ∧ ∃ cur, W.heap[gs[j].1]? = some (.cells cur 3 (0, 0)) ∧ cur.toList.take L[j].length = ints L[j]
structure HA (W : World) (B : Nat) (ok : Nat → Prop) (L : List (List Int)) : Prop where
 bok : ok B
 arrs : ∃ v gs, W.heap[B]? = some (.cells #[v, .int .i64 (cellsOf L)] 47 (0, 0)) ∧ Arrs W ok v gs L
structure HR (W : World) (B : Nat) (ok : Nat → Prop) (L : List (List Int)) : Prop where
 bok : ok B
 arrs : ∃ v gs, W.heap[B]? = some (.cells #[v] 51 (0, 0)) ∧ Arrs W ok v gs L
theorem own_lt {W : World} {base : Nat} {e : TypeId} {size n : Nat} {v : Value} {xs : List Value} (h : W.ownsRow base e size v n xs) : ∀ k, v.ownBlock = some k → k < W.heap.size := fun k hk => (h.lt k hk).2
theorem Arrs.step {W W' : World} {ok : Nat → Prop} {v : Value} {gs : List (Nat × Nat)} {L : List (List Int)} (h : Arrs W ok v gs L) (hs : ∀ k, k < W.heap.size → ok k → W'.heap[k]? = W.heap[k]?) : Arrs W' ok v gs L :=
 ⟨own_move h.own (fun k hk => hs k (own_lt h.own k hk) (h.vok k hk)), h.vok, h.len, h.nd, fun j hj hj' => ⟨(h.at_ j hj hj').1, let ⟨cur, h1, h2⟩ := (h.at_ j hj hj').2; ⟨cur, (hs _ (blk_lt h1) (h.at_ j hj hj').1).trans h1, h2⟩⟩⟩
theorem HA.step {W W' : World} {B : Nat} {ok : Nat → Prop} {L : List (List Int)} (h : HA W B ok L) (hs : ∀ k, k < W.heap.size → ok k → W'.heap[k]? = W.heap[k]?) : HA W' B ok L := by
 obtain ⟨v, gs, h1, h2⟩ := h.arrs
 exact ⟨h.bok, v, gs, (hs _ (blk_lt h1) h.bok).trans h1, h2.step hs⟩
theorem HR.step {W W' : World} {B : Nat} {ok : Nat → Prop} {L : List (List Int)} (h : HR W B ok L) (hs : ∀ k, k < W.heap.size → ok k → W'.heap[k]? = W.heap[k]?) : HR W' B ok L := by
 obtain ⟨v, gs, h1, h2⟩ := h.arrs
 exact ⟨h.bok, v, gs, (hs _ (blk_lt h1) h.bok).trans h1, h2.step hs⟩
theorem HA.below {W W' : World} {B : Nat} {ok : Nat → Prop} {L : List (List Int)} (h : HA W B ok L) (hb : Below W.heap.size W W') : HA W' B ok L := h.step (fun k hk _ => hb.block k hk)
theorem HR.below {W W' : World} {B : Nat} {ok : Nat → Prop} {L : List (List Int)} (h : HR W B ok L) (hb : Below W.heap.size W W') : HR W' B ok L := h.step (fun k hk _ => hb.block k hk)
theorem rows_get : ∀ (gs : List (Nat × Nat)) (L : List (List Int)) (j : Nat) (h : j < gs.length) (h' : j < L.length), (rows gs L)[j]? = some (.slice (some ⟨gs[j].1, 0, none⟩) L[j].length gs[j].2)
 | g :: gs, xs :: L, 0, h, h' => rfl
 | g :: gs, xs :: L, j + 1, h, h' => by simpa [rows] using rows_get gs L j (by simpa using h) (by simpa using h')
 | [], _, _, h, _ => by simp at h
 | _ :: _, [], _, _, h' => by simp at h'
theorem Arrs.get {W : World} {ok : Nat → Prop} {v : Value} {gs : List (Nat × Nat)} {L : List (List Int)} (h : Arrs W ok v gs L) : ∃ A c, v = .slice A L.length c ∧ (L.length = 0 ∨ ∃ g, A = some ⟨g, 0, none⟩ ∧ g < W.heap.size ∧ ∀ j (hj : j < gs.length) (hj' : j < L.length), W.cell? ⟨g, j, none⟩ = some (.slice (some ⟨gs[j].1, 0, none⟩) L[j].length gs[j].2)) := by
 obtain ⟨hl, ho⟩ := h.own
 rcases ho with ⟨e, h0⟩ | ⟨g, cap, cur, e, hb, hh, h1, h2, h3, h4⟩
 ·exact ⟨none, 0, by rw [e, h0], .inl h0⟩
 ·refine ⟨_, cap, e, .inr ⟨g, rfl, blk_lt hh, fun j hj hj' => ?_⟩⟩
  rw [blk_cell hh j]
  have hr := rows_get gs L j hj hj'
  rw [← h4, List.getElem?_take] at hr
  split at hr
  ·simpa using hr
  ·cases hr
theorem row_cell {W : World} {d : Nat} {l : List Int} {cur : Array Value} (h : W.heap[d]? = some (.cells cur 3 (0, 0))) (hc : cur.toList.take l.length = ints l) {i : Nat} (hi : i < l.length) : W.cell? ⟨d, i, none⟩ = some (.int .i64 (l.getD i 0)) := by
 rw [blk_cell h i, getD_lt _ _ hi, ← Array.getElem?_toList, ← List.getElem?_take_of_lt hi, hc]
 simp [ints, hi]
structure RowAt (W : World) (ok : Nat → Prop) (d : Nat) (l : List Int) : Prop where
 lt : d < W.heap.size
 ok : ok d
 cell : ∀ i, i < l.length → W.cell? ⟨d, i, none⟩ = some (.int .i64 (l.getD i 0))
 frozen : ∀ i, W.frozen? ⟨d, i, none⟩ = false
theorem Arrs.one {W : World} {ok : Nat → Prop} {v : Value} {gs : List (Nat × Nat)} {L : List (List Int)} (h : Arrs W ok v gs L) {n : Int} (h1 : 1 ≤ n) (h2 : n ≤ (L.length : Int)) :
  ∃ g c d q, v = .slice (some ⟨g, 0, none⟩) L.length c ∧ g < W.heap.size ∧ gs[(n - 1).toNat]? = some (d, q) ∧ W.cell? ⟨g, n.toNat - 1, none⟩ = some (.slice (some ⟨d, 0, none⟩) (L.getD (n - 1).toNat []).length q) ∧ RowAt W ok d (L.getD (n - 1).toNat []) := by
 obtain ⟨A, c, rfl, hr⟩ := h.get
 rcases hr with h0 | ⟨g, rfl, hg, hr⟩
 ·omega
 ·have hj' : (n - 1).toNat < L.length := by omega
  have hj : (n - 1).toNat < gs.length := by rw [h.len]; exact hj'
  have e : n.toNat - 1 = (n - 1).toNat := by omega
  obtain ⟨hok, cur, hb, hc⟩ := h.at_ _ hj hj'
  refine ⟨g, c, gs[(n - 1).toNat].1, gs[(n - 1).toNat].2, rfl, hg, List.getElem?_eq_getElem hj, ?_, ?_⟩
  ·rw [e, getD_lt _ _ hj']
   exact hr _ hj hj'
  ·rw [getD_lt _ _ hj']
   exact ⟨blk_lt hb, hok, fun i hi => row_cell hb hc hi, fun i => blk_frozen hb i⟩
theorem below_drewN {b n : Nat} {w w' : World} (h : Below b w w') : Below b w (w'.drewN n) := by
 exact ⟨h.os, h.tape, h.output, h.size, h.block⟩
set_option maxRecDepth 100000 in
set_option maxHeartbeats 2000000 in
theorem array_no1 (B : Nat) (A : Option Addr) (l c : Nat) (x : Value) (a n : Int) (w : World) (hB : w.heap[B]? = some (.cells #[.slice A l c, x] 47 (0, 0))) (hl : l ≤ 1000000) (h3 : a ≠ 3) :
  Calls Try.prog 47 #[.pointer (some ⟨B, 0, none⟩), .agg #[.int .i64 a, .int .i64 n]] w fun e w' => e = .returned (.tuple #[.slice none 0 0, .bool false]) ∧ Below w.heap.size w w' := by
 have b0 := blk_cell hB 0
 have hlt := blk_lt hB
 have d1 : (a != 3) = true := by simp [h3]
 clear h3 hB
 go_enter Try.func47, Try.ntmps47
 go_wp2_with fail
 go_quiet (fail)
 go_wp2_with fail
 go_ret2
 exact ⟨rfl, below_drewN ((Below.refl _ _).alloc (Nat.le_refl _) _)⟩
set_option maxRecDepth 100000 in
set_option maxHeartbeats 2000000 in
theorem array_no2 (B : Nat) (A : Option Addr) (l c : Nat) (x : Value) (n : Int) (w : World) (hB : w.heap[B]? = some (.cells #[.slice A l c, x] 47 (0, 0))) (hl : l ≤ 1000000) (h1 : n < 1) :
  Calls Try.prog 47 #[.pointer (some ⟨B, 0, none⟩), .agg #[.int .i64 3, .int .i64 n]] w fun e w' => e = .returned (.tuple #[.slice none 0 0, .bool false]) ∧ Below w.heap.size w w' := by
 have b0 := blk_cell hB 0
 have hlt := blk_lt hB
 have d2 : decide (n < 1) = true := by simp [h1]
 clear h1 hB
 go_enter Try.func47, Try.ntmps47
 go_wp2_with fail
 go_quiet (fail)
 go_wp2_with fail
 go_ret2
 exact ⟨rfl, below_drewN ((Below.refl _ _).alloc (Nat.le_refl _) _)⟩
set_option maxRecDepth 100000 in
set_option maxHeartbeats 2000000 in
theorem array_no3 (B : Nat) (A : Option Addr) (l c : Nat) (x : Value) (n : Int) (w : World) (hB : w.heap[B]? = some (.cells #[.slice A l c, x] 47 (0, 0))) (hl : l ≤ 1000000) (h1 : 1 ≤ n) (h2 : (l : Int) < n) :
  Calls Try.prog 47 #[.pointer (some ⟨B, 0, none⟩), .agg #[.int .i64 3, .int .i64 n]] w fun e w' => e = .returned (.tuple #[.slice none 0 0, .bool false]) ∧ Below w.heap.size w w' := by
 have b0 := blk_cell hB 0
 have hlt := blk_lt hB
 have d2 : decide (n < 1) = false := by simp; omega
 have d3 : decide ((l : Int) < n) = true := by simp; omega
 clear h1 h2 hB
 go_enter Try.func47, Try.ntmps47
 go_wp2_with fail
 go_quiet (fail)
 go_wp2_with fail
 go_ret2
 exact ⟨rfl, below_drewN ((Below.refl _ _).alloc (Nat.le_refl _) _)⟩
set_option maxRecDepth 100000 in
set_option maxHeartbeats 2000000 in
theorem array_yes (B g l c : Nat) (x : Value) (a1 : Option Addr) (l1 c1 : Nat) (n : Int) (w : World) (hB : w.heap[B]? = some (.cells #[.slice (some ⟨g, 0, none⟩) l c, x] 47 (0, 0))) (hl : l ≤ 1000000) (h1 : 1 ≤ n) (h2 : n ≤ (l : Int)) (hg : g < w.heap.size) (hc : w.cell? ⟨g, n.toNat - 1, none⟩ = some (.slice a1 l1 c1)) :
  Calls Try.prog 47 #[.pointer (some ⟨B, 0, none⟩), .agg #[.int .i64 3, .int .i64 n]] w fun e w' => e = .returned (.tuple #[.slice a1 l1 c1, .bool true]) ∧ Below w.heap.size w w' := by
 have b0 := blk_cell hB 0
 have hlt := blk_lt hB
 have d2 : decide (n < 1) = false := by simp; omega
 have d3 : decide ((l : Int) < n) = false := by simp; omega
 have hw : IntKind.i64.wrap (n - 1) = n - 1 := IntWalk.i64_in _ (by omega)
 have hn0 : 0 ≤ n - 1 := by omega
 have hn1 : n - 1 < (l : Int) := by omega
 clear hB
 go_enter Try.func47, Try.ntmps47
 go_wp2_with fail
 go_quiet (fail)
 go_wp2_with fail
 go_quiet (fail)
 go_wp2_with fail
 go_ret2
 exact ⟨rfl, below_drewN (below_drewN ((Below.refl _ _).alloc (Nat.le_refl _) _))⟩
def isB (L : List (List Int)) (a n : Int) : Bool := decide (a = 3 ∧ 1 ≤ n ∧ n ≤ (L.length : Int))
def arrAt (L : List (List Int)) (n : Int) : List Int := L.getD (n - 1).toNat []
theorem array_no {w : World} {B : Nat} {ok : Nat → Prop} {L : List (List Int)} {v x : Value} {gs : List (Nat × Nat)} (hB : w.heap[B]? = some (.cells #[v, x] 47 (0, 0))) (hA : Arrs w ok v gs L) (hl : L.length ≤ 1000000) (a n : Int) (h : isB L a n = false) :
  Calls Try.prog 47 #[.pointer (some ⟨B, 0, none⟩), .agg #[.int .i64 a, .int .i64 n]] w fun e w' => e = .returned (.tuple #[.slice none 0 0, .bool false]) ∧ Below w.heap.size w w' := by
 obtain ⟨A, c, rfl, _⟩ := hA.get
 have h' : ¬ (a = 3 ∧ 1 ≤ n ∧ n ≤ (L.length : Int)) := of_decide_eq_false h
 by_cases h3 : a = 3
 ·subst h3
  by_cases h1 : n < 1
  ·exact array_no2 B A _ c x n w hB hl h1
  ·exact array_no3 B A _ c x n w hB hl (by omega) (by omega)
 ·exact array_no1 B A _ c x a n w hB hl h3
theorem array_is {w : World} {B g l c d m q : Nat} {x : Value} (n : Int) (hB : w.heap[B]? = some (.cells #[.slice (some ⟨g, 0, none⟩) l c, x] 47 (0, 0))) (hl : l ≤ 1000000) (h1 : 1 ≤ n) (h2 : n ≤ (l : Int)) (hg : g < w.heap.size) (hc : w.cell? ⟨g, n.toNat - 1, none⟩ = some (.slice (some ⟨d, 0, none⟩) m q)) :
  Calls Try.prog 47 #[.pointer (some ⟨B, 0, none⟩), .agg #[.int .i64 3, .int .i64 n]] w fun e w' => e = .returned (.tuple #[.slice (some ⟨d, 0, none⟩) m q, .bool true]) ∧ Below w.heap.size w w' := array_yes B g l c x _ m q n w hB hl h1 h2 hg hc
set_option maxRecDepth 100000 in
set_option maxHeartbeats 2000000 in
theorem cell_missing {w : World} {B : Nat} {ok : Nat → Prop} {L : List (List Int)} {v x : Value} {gs : List (Nat × Nat)} (hB : w.heap[B]? = some (.cells #[v, x] 47 (0, 0))) (hA : Arrs w ok v gs L) (hl : L.length ≤ 1000000) (a n k i : Int) (h : isB L a n = false) :
  Calls Try.prog 46 #[.pointer (some ⟨B, 0, none⟩), .agg #[.int .i64 a, .int .i64 n], .agg #[.int .i64 k, .int .i64 i]] w fun e w' => e = .returned (.tuple #[.pointer none, .int .i64 3]) ∧ Below w.heap.size w w' := by
 have hB1 : ((w.alloc (.cells #[.int .i64 a, .int .i64 n] 23)).alloc (.cells #[.int .i64 k, .int .i64 i] 23)).heap[B]? = some (.cells #[v, x] 47 (0, 0)) := blk_alloc (blk_alloc hB _) _
 have hb0 : Below w.heap.size w ((w.alloc (.cells #[.int .i64 a, .int .i64 n] 23)).alloc (.cells #[.int .i64 k, .int .i64 i] 23)) := below_alloc (below_alloc (Below.refl _ _) _) _
 have hA1 := hA.step (W' := (w.alloc (.cells #[.int .i64 a, .int .i64 n] 23)).alloc (.cells #[.int .i64 k, .int .i64 i] 23)) (fun k hk _ => hb0.block k hk)
 have H := Lib.hid (array_no hB1 hA1 hl a n h)
 clear h hA hB hA1 hB1
 go_enter Try.func46, Try.ntmps46
 go_wp2_with (go_at_call 47; refine H.out.mono ?_; rintro e w1 ⟨rfl, hb⟩)
 go_ret2
 exact ⟨rfl, below_step hb0 hb⟩
set_option maxRecDepth 100000 in
set_option maxHeartbeats 2000000 in
theorem cell_range1 {w : World} {B g l c d m q : Nat} {x : Value} (n k i : Int) (hB : w.heap[B]? = some (.cells #[.slice (some ⟨g, 0, none⟩) l c, x] 47 (0, 0))) (hl : l ≤ 1000000) (h1 : 1 ≤ n) (h2 : n ≤ (l : Int)) (hg : g < w.heap.size) (hc : w.cell? ⟨g, n.toNat - 1, none⟩ = some (.slice (some ⟨d, 0, none⟩) m q)) (hm : m ≤ 1000000) (hr : k ≠ 1 ∨ i < 0 ∨ (m : Int) ≤ i) :
  Calls Try.prog 46 #[.pointer (some ⟨B, 0, none⟩), .agg #[.int .i64 3, .int .i64 n], .agg #[.int .i64 k, .int .i64 i]] w fun e w' => e = .returned (.tuple #[.pointer none, .int .i64 2]) ∧ Below w.heap.size w w' := by
 have hB1 : ((w.alloc (.cells #[.int .i64 3, .int .i64 n] 23)).alloc (.cells #[.int .i64 k, .int .i64 i] 23)).heap[B]? = some (.cells #[.slice (some ⟨g, 0, none⟩) l c, x] 47 (0, 0)) := blk_alloc (blk_alloc hB _) _
 have hb0 : Below w.heap.size w ((w.alloc (.cells #[.int .i64 3, .int .i64 n] 23)).alloc (.cells #[.int .i64 k, .int .i64 i] 23)) := below_alloc (below_alloc (Below.refl _ _) _) _
 have hc1 : ((w.alloc (.cells #[.int .i64 3, .int .i64 n] 23)).alloc (.cells #[.int .i64 k, .int .i64 i] 23)).cell? ⟨g, n.toNat - 1, none⟩ = some (.slice (some ⟨d, 0, none⟩) m q) := pw_cell_below hb0 hc
 have H := Lib.hid (array_is n hB1 hl h1 h2 (by simp; omega) hc1)
 clear hc hB hc1 hB1 h1 h2
 by_cases h1 : k = 1
 ·subst h1
  by_cases h2 : i < 0
  ·have d2 : decide (i < 0) = true := by simp [h2]
   clear hr h2
   go_enter Try.func46, Try.ntmps46
   go_wp2_with (go_at_call 47; refine H.out.mono ?_; rintro e w1 ⟨rfl, hb⟩; obtain ⟨hbc, hbf⟩ := bcell hb)
   go_ret2
   exact ⟨rfl, below_step hb0 hb⟩
  ·have h3 : (m : Int) ≤ i := by omega
   have d2 : decide (i < 0) = false := by simp; omega
   clear hr h2
   go_enter Try.func46, Try.ntmps46
   go_wp2_with (go_at_call 47; refine H.out.mono ?_; rintro e w1 ⟨rfl, hb⟩; obtain ⟨hbc, hbf⟩ := bcell hb)
   go_ret2
   exact ⟨rfl, below_step hb0 hb⟩
 ·have d1 : (k == 1) = false := by simp [h1]
  have d2 : (k != 1) = true := by simp [h1]
  clear hr h1
  go_enter Try.func46, Try.ntmps46
  go_wp2_with (go_at_call 47; refine H.out.mono ?_; rintro e w1 ⟨rfl, hb⟩; obtain ⟨hbc, hbf⟩ := bcell hb)
  go_ret2
  exact ⟨rfl, below_step hb0 hb⟩
attribute [local go_sem] max2_int min2_int max_two min_two max_three min_three max_four min_four
def value_number.f (a0 : Int) : Option (Int × Int) := some (1, a0)
set_option maxHeartbeats 8000000 in
set_option maxRecDepth 100000 in
theorem value_number.calls (a0 : Int) (r1 : Int) (r2 : Int) (w : World) (h : value_number.f a0 = some (r1, r2)) :
  Calls Try.prog 33 #[.int .i64 a0] w fun e w' => e = .returned (.agg #[.int .i64 r1, .int .i64 r2]) ∧ Below w.heap.size w w' := by
 have hu23 := Try.underlying23
 have HB := Aside0.mk (Below.refl w.heap.size w)
 have H : (some (1, a0)) = some (r1, r2) := h
 clear h
 simp only [Option.some.injEq, Prod.mk.injEq] at H
 obtain ⟨rfl, rfl⟩ := H
 go_enter Try.func33, Try.ntmps33
 go_wp2_with (first | ((with_reducible refine gate_dst (N := 2) rfl ?_); refine box_event ?hg (N := 2) ?hd (cs := #[.int .i64 0, .int .i64 0]) (t := 23) ?hr ?_; (case hd => rfl); (case hg => rfl); (case hr => first | (go_simp; done) | (go_simp; rfl)); intro gb102 hg w2 hbox hb; have n0_ := Aside0.mk (below_step (by repeat (first | (with_reducible first | exact HB.out | apply below_alloc | apply pw_below_drewN | apply below_drew1) | exact HB.out)) hb); have n1_ := Aside0.mk (hbox); have n2_ := Aside0.mk ((by rw [hg]; exact (below_size (by repeat (first | (with_reducible first | exact HB.out | apply below_alloc | apply pw_below_drewN | apply below_drew1) | exact HB.out))) : w.heap.size ≤ gb102)); have n3_ := Aside0.mk ((by rw [hg]; exact (below_size (by repeat (first | (with_reducible first | exact HB.out | apply below_alloc | apply pw_below_drewN | apply below_drew1) | exact HB.out))) : w.heap.size ≤ gb102)); clear HB; have HB := n0_; have BK102 := n1_; have GW102 := n2_; have GE102 := n3_; clear n0_ n1_ n2_ n3_; clear hb hbox hg; have hcz3_0 : w2.cell? ⟨gb102, 0, none⟩ = some (.int .i64 0) := (blk_cell BK102.out 0).trans rfl; have hcz3_1 : w2.cell? ⟨gb102, 1, none⟩ = some (.int .i64 0) := (blk_cell BK102.out 1).trans rfl; have hfz3_0 := blk_frozen BK102.out 0; have hfz3_1 := blk_frozen BK102.out 1))
 refine bodyPost_ret (results_cell_row rfl _ _ gb102 23 #[.int .i64 1, .int .i64 a0] (0, 0) _ rfl (by (with_reducible repeat (first | refine blk_drewN ?_ _ | refine blk_drew ?_ | refine blk_alloc ?_ _)); refine blk_put (cs := #[.int .i64 1, .int .i64 0]) ?_ 1 _ rfl; (with_reducible repeat (first | refine blk_drewN ?_ _ | refine blk_drew ?_ | refine blk_alloc ?_ _)); refine blk_put (cs := #[.int .i64 0, .int .i64 0]) ?_ 0 _ rfl; (with_reducible repeat (first | refine blk_drewN ?_ _ | refine blk_drew ?_ | refine blk_alloc ?_ _)); exact BK102.out) Try.underlying23 rfl (by kernel_rfl)) rfl ?_
 exact ⟨by first | rfl | (simp [errW_none, errW_some] <;> rfl) | (simp [*, errW_none, errW_some] <;> rfl), by repeat (first | (with_reducible first | exact HB.out | apply below_alloc | apply pw_below_drewN | apply below_drew1 | refine below_set ?_ GE102.out) | exact HB.out)⟩
def wrongF (L : List (List Int)) (a n k i : Int) : Int := if isB L a n = false then 3 else if k ≠ 1 ∨ i < 0 ∨ ((arrAt L n).length : Int) ≤ i then 2 else 0
set_option maxRecDepth 100000 in
set_option maxHeartbeats 2000000 in
theorem cell_ok {w : World} {B g l c d m q : Nat} {x : Value} (n i : Int) (hB : w.heap[B]? = some (.cells #[.slice (some ⟨g, 0, none⟩) l c, x] 47 (0, 0))) (hl : l ≤ 1000000) (h1 : 1 ≤ n) (h2 : n ≤ (l : Int)) (hg : g < w.heap.size) (hc : w.cell? ⟨g, n.toNat - 1, none⟩ = some (.slice (some ⟨d, 0, none⟩) m q)) (hm : m ≤ 1000000) (hi0 : 0 ≤ i) (him : i < (m : Int)) :
  Calls Try.prog 46 #[.pointer (some ⟨B, 0, none⟩), .agg #[.int .i64 3, .int .i64 n], .agg #[.int .i64 1, .int .i64 i]] w fun e w' => e = .returned (.tuple #[.pointer (some ⟨d, i.toNat, none⟩), .int .i64 0]) ∧ Below w.heap.size w w' := by
 have hB1 : ((w.alloc (.cells #[.int .i64 3, .int .i64 n] 23)).alloc (.cells #[.int .i64 1, .int .i64 i] 23)).heap[B]? = some (.cells #[.slice (some ⟨g, 0, none⟩) l c, x] 47 (0, 0)) := blk_alloc (blk_alloc hB _) _
 have hb0 : Below w.heap.size w ((w.alloc (.cells #[.int .i64 3, .int .i64 n] 23)).alloc (.cells #[.int .i64 1, .int .i64 i] 23)) := below_alloc (below_alloc (Below.refl _ _) _) _
 have hc1 : ((w.alloc (.cells #[.int .i64 3, .int .i64 n] 23)).alloc (.cells #[.int .i64 1, .int .i64 i] 23)).cell? ⟨g, n.toNat - 1, none⟩ = some (.slice (some ⟨d, 0, none⟩) m q) := pw_cell_below hb0 hc
 have H := Lib.hid (array_is n hB1 hl h1 h2 (by simp; omega) hc1)
 clear hc hB hc1 hB1 h1 h2
 have d2 : decide (i < 0) = false := by simp; omega
 have d3 : decide ((m : Int) ≤ i) = false := by simp; omega
 go_enter Try.func46, Try.ntmps46
 go_wp2_with (go_at_call 47; refine H.out.mono ?_; rintro e w1 ⟨rfl, hb⟩; obtain ⟨hbc, hbf⟩ := bcell hb)
 go_ret2
 exact ⟨rfl, below_step hb0 hb⟩
theorem le2 (n : Nat) : n ≤ n + 1 + 1 := by omega
theorem blk_third {w w1 : World} {o1 o2 o3 : Obj} (hb : Below (((w.alloc o1).alloc o2).alloc o3).heap.size (((w.alloc o1).alloc o2).alloc o3) w1) : w1.heap[w.heap.size + 1 + 1]? = some o3 := by
 have h := heap_alloc_new ((w.alloc o1).alloc o2) o3
 have e : ((w.alloc o1).alloc o2).heap.size = w.heap.size + 1 + 1 := by simp
 rw [e] at h
 exact blk_below h hb
set_option maxRecDepth 100000 in
set_option maxHeartbeats 2000000 in
theorem get_err {w : World} {B : Nat} (a n k i r : Int) (hr : r = 2 ∨ r = 3) (hcell : ∀ w1, Below w.heap.size w w1 → Calls Try.prog 46 #[.pointer (some ⟨B, 0, none⟩), .agg #[.int .i64 a, .int .i64 n], .agg #[.int .i64 k, .int .i64 i]] w1 fun e w' => e = .returned (.tuple #[.pointer none, .int .i64 r]) ∧ Below w1.heap.size w1 w') :
  Calls Try.prog 21 #[.pointer (some ⟨B, 0, none⟩), .agg #[.int .i64 a, .int .i64 n], .agg #[.int .i64 k, .int .i64 i]] w fun e w' => e = .returned (.tuple #[.agg #[.int .i64 0, .int .i64 0], .int .i64 r]) ∧ Below w.heap.size w w' := by
 have hb0 : Below w.heap.size w (((w.alloc (.cells #[.int .i64 a, .int .i64 n] 23)).alloc (.cells #[.int .i64 k, .int .i64 i] 23)).alloc (.cells #[.int .i64 0, .int .i64 0] 23)) := below_alloc (below_alloc (below_alloc (Below.refl _ _) _) _) _
 have H := Lib.hid (hcell _ hb0)
 have d : (r != 0) = true := by rcases hr with rfl | rfl <;> rfl
 clear hcell hr
 go_enter Try.func21, Try.ntmps21
 go_wp2_with (go_at_call 46; refine H.out.mono ?_; rintro e w1 ⟨rfl, hb⟩; obtain ⟨hbc, hbf⟩ := bcell hb)
 have BK := blk_third hb
 refine bodyPost_ret (results_ct rfl _ _ (w.heap.size + 1 + 1) 23 #[.int .i64 0, .int .i64 0] (0, 0) _ rfl (blk_put (blk_put BK 0 _ rfl) 1 _ rfl) Try.underlying23 rfl (by kernel_rfl)) rfl ?_
 exact ⟨rfl, ((below_step hb0 hb).setCell (le2 _) _).setCell (le2 _) _⟩
set_option maxRecDepth 100000 in
set_option maxHeartbeats 2000000 in
theorem get_is {w : World} {B d : Nat} (a n k i : Int) (j : Nat) (u : Int) (hd : d < w.heap.size) (hu : w.cell? ⟨d, j, none⟩ = some (.int .i64 u)) (hcell : ∀ w1, Below w.heap.size w w1 → Calls Try.prog 46 #[.pointer (some ⟨B, 0, none⟩), .agg #[.int .i64 a, .int .i64 n], .agg #[.int .i64 k, .int .i64 i]] w1 fun e w' => e = .returned (.tuple #[.pointer (some ⟨d, j, none⟩), .int .i64 0]) ∧ Below w1.heap.size w1 w') :
  Calls Try.prog 21 #[.pointer (some ⟨B, 0, none⟩), .agg #[.int .i64 a, .int .i64 n], .agg #[.int .i64 k, .int .i64 i]] w fun e w' => e = .returned (.tuple #[.agg #[.int .i64 1, .int .i64 u], .int .i64 0]) ∧ Below w.heap.size w w' := by
 have hb0 : Below w.heap.size w (((w.alloc (.cells #[.int .i64 a, .int .i64 n] 23)).alloc (.cells #[.int .i64 k, .int .i64 i] 23)).alloc (.cells #[.int .i64 0, .int .i64 0] 23)) := below_alloc (below_alloc (below_alloc (Below.refl _ _) _) _) _
 have H := Lib.hid (hcell _ hb0)
 have hu1 := Lib.hid (pw_cell_below hb0 hu)
 clear hcell hu
 go_enter Try.func21, Try.ntmps21
 go_wp2_with (first | (go_at_call 46; refine H.out.mono ?_; rintro e w1 ⟨rfl, hb⟩; have hu2 := pw_cell_below hb hu1.out; obtain ⟨hbc, hbf⟩ := bcell hb; have hz : w.heap.size + 1 + 1 < w1.heap.size := (by have := hb.size; simp at this; omega)) | (go_at_call 33; refine (value_number.calls u 1 u _ rfl).mono ?_; rintro e w2 ⟨rfl, hb2⟩; obtain ⟨hbc2, hbf2⟩ := bcell hb2))
 have BK := blk_below (blk_third hb) hb2
 refine bodyPost_ret (results_ct rfl _ _ (w.heap.size + 1 + 1) 23 #[.int .i64 1, .int .i64 u] (0, 0) _ rfl (blk_put (blk_put BK 0 _ rfl) 1 _ rfl) Try.underlying23 rfl (by kernel_rfl)) rfl ?_
 exact ⟨rfl, ((below_step (below_step hb0 hb) hb2).setCell (le2 _) _).setCell (le2 _) _⟩
set_option maxRecDepth 100000 in
set_option maxHeartbeats 2000000 in
theorem set_err {w : World} {B : Nat} (a n k i s x r : Int) (hr : r = 2 ∨ r = 3) (hcell : ∀ w1, Below w.heap.size w w1 → Calls Try.prog 46 #[.pointer (some ⟨B, 0, none⟩), .agg #[.int .i64 a, .int .i64 n], .agg #[.int .i64 k, .int .i64 i]] w1 fun e w' => e = .returned (.tuple #[.pointer none, .int .i64 r]) ∧ Below w1.heap.size w1 w') :
  Calls Try.prog 24 #[.pointer (some ⟨B, 0, none⟩), .agg #[.int .i64 a, .int .i64 n], .agg #[.int .i64 k, .int .i64 i], .agg #[.int .i64 s, .int .i64 x]] w fun e w' => e = .returned (.int .i64 r) ∧ Below w.heap.size w w' := by
 have hb0 : Below w.heap.size w (((w.alloc (.cells #[.int .i64 a, .int .i64 n] 23)).alloc (.cells #[.int .i64 k, .int .i64 i] 23)).alloc (.cells #[.int .i64 s, .int .i64 x] 23)) := below_alloc (below_alloc (below_alloc (Below.refl _ _) _) _) _
 have H := Lib.hid (hcell _ hb0)
 have d : (r == 0) = false := by rcases hr with rfl | rfl <;> rfl
 clear hcell hr
 go_enter Try.func24, Try.ntmps24
 go_wp2_with (go_at_call 46; refine H.out.mono ?_; rintro e w1 ⟨rfl, hb⟩; obtain ⟨hbc, hbf⟩ := bcell hb)
 go_ret
 exact ⟨rfl, below_step hb0 hb⟩
set_option maxRecDepth 100000 in
set_option maxHeartbeats 2000000 in
theorem set_nop {w : World} {B d j : Nat} (a n k i s x : Int) (hs : s ≠ 1) (hcell : ∀ w1, Below w.heap.size w w1 → Calls Try.prog 46 #[.pointer (some ⟨B, 0, none⟩), .agg #[.int .i64 a, .int .i64 n], .agg #[.int .i64 k, .int .i64 i]] w1 fun e w' => e = .returned (.tuple #[.pointer (some ⟨d, j, none⟩), .int .i64 0]) ∧ Below w1.heap.size w1 w') :
  Calls Try.prog 24 #[.pointer (some ⟨B, 0, none⟩), .agg #[.int .i64 a, .int .i64 n], .agg #[.int .i64 k, .int .i64 i], .agg #[.int .i64 s, .int .i64 x]] w fun e w' => e = .returned (.int .i64 0) ∧ Below w.heap.size w w' := by
 have hb0 : Below w.heap.size w (((w.alloc (.cells #[.int .i64 a, .int .i64 n] 23)).alloc (.cells #[.int .i64 k, .int .i64 i] 23)).alloc (.cells #[.int .i64 s, .int .i64 x] 23)) := below_alloc (below_alloc (below_alloc (Below.refl _ _) _) _) _
 have H := Lib.hid (hcell _ hb0)
 have ds : (s == 1) = false := by simp [hs]
 clear hcell hs
 go_enter Try.func24, Try.ntmps24
 go_wp2_with (go_at_call 46; refine H.out.mono ?_; rintro e w1 ⟨rfl, hb⟩; obtain ⟨hbc, hbf⟩ := bcell hb)
 go_ret
 exact ⟨rfl, below_step hb0 hb⟩
set_option maxRecDepth 100000 in
set_option maxHeartbeats 2000000 in
theorem set_is {w : World} {B d j : Nat} (a n k i x : Int) (u : Value) (hd : d < w.heap.size) (hu : w.cell? ⟨d, j, none⟩ = some u) (hf : w.frozen? ⟨d, j, none⟩ = false) (hcell : ∀ w1, Below w.heap.size w w1 → Calls Try.prog 46 #[.pointer (some ⟨B, 0, none⟩), .agg #[.int .i64 a, .int .i64 n], .agg #[.int .i64 k, .int .i64 i]] w1 fun e w' => e = .returned (.tuple #[.pointer (some ⟨d, j, none⟩), .int .i64 0]) ∧ Below w1.heap.size w1 w') :
  Calls Try.prog 24 #[.pointer (some ⟨B, 0, none⟩), .agg #[.int .i64 a, .int .i64 n], .agg #[.int .i64 k, .int .i64 i], .agg #[.int .i64 1, .int .i64 x]] w fun e w' => e = .returned (.int .i64 0) ∧ ∃ w1, Below w.heap.size w w1 ∧ w' = w1.setCell ⟨d, j, none⟩ (.int .i64 x) := by
 have hb0 : Below w.heap.size w (((w.alloc (.cells #[.int .i64 a, .int .i64 n] 23)).alloc (.cells #[.int .i64 k, .int .i64 i] 23)).alloc (.cells #[.int .i64 1, .int .i64 x] 23)) := below_alloc (below_alloc (below_alloc (Below.refl _ _) _) _) _
 have H := Lib.hid (hcell _ hb0)
 have hu1 := Lib.hid (pw_cell_below hb0 hu)
 have hf1 := Lib.hid ((hb0.frozen (p := ⟨d, j, none⟩) hd).trans hf)
 have hd1 : d < (((w.alloc (.cells #[.int .i64 a, .int .i64 n] 23)).alloc (.cells #[.int .i64 k, .int .i64 i] 23)).alloc (.cells #[.int .i64 1, .int .i64 x] 23)).heap.size := by simp; omega
 clear hcell hu hf
 go_enter Try.func24, Try.ntmps24
 go_wp2_with (go_at_call 46; refine H.out.mono ?_; rintro e w1 ⟨rfl, hb⟩; have hu2 := pw_cell_below hb hu1.out; have hf2 := (hb.frozen (p := ⟨d, j, none⟩) hd1).trans hf1.out; obtain ⟨hbc, hbf⟩ := bcell hb)
 go_ret
 exact ⟨rfl, _, below_step hb0 hb, rfl⟩
set_option maxRecDepth 100000 in
set_option maxHeartbeats 2000000 in
theorem len_of {w : World} {B m : Nat} (a n : Int) (A : Option Addr) (c : Nat) (b : Bool) (hm : m ≤ 1000000) (harr : ∀ w1, Below w.heap.size w w1 → Calls Try.prog 47 #[.pointer (some ⟨B, 0, none⟩), .agg #[.int .i64 a, .int .i64 n]] w1 fun e w' => e = .returned (.tuple #[.slice A m c, .bool b]) ∧ Below w1.heap.size w1 w') :
  Calls Try.prog 22 #[.pointer (some ⟨B, 0, none⟩), .agg #[.int .i64 a, .int .i64 n]] w fun e w' => e = .returned (.int .i64 m) ∧ Below w.heap.size w w' := by
 have hb0 : Below w.heap.size w (w.alloc (.cells #[.int .i64 a, .int .i64 n] 23)) := below_alloc (Below.refl _ _) _
 have H := Lib.hid (harr _ hb0)
 clear harr
 go_enter Try.func22, Try.ntmps22
 go_wp2_with (go_at_call 47; refine H.out.mono ?_; rintro e w1 ⟨rfl, hb⟩; obtain ⟨hbc, hbf⟩ := bcell hb)
 go_ret
 exact ⟨rfl, below_step hb0 hb⟩
end Go.Proofs.Ytkhlfdcjgooogaa.P
