import Derived.Test.YtkhlfdcjgooogaaGreatTyV
import Derived.Test.YtkhlfdcjgooogaaGreatWMore
import Derived.Test.YtkhlfdcjgooogaaGreatPf103
import Derived.Laws.LoneSync
import Derived.Outline
import Derived.Lib.Hide
import Derived.Deep.RegionHeld3
import Derived.BigQuiet
set_option maxRecDepth 100000
set_option maxHeartbeats 16000000
set_option linter.unusedVariables false
set_option linter.unusedSimpArgs false
set_option linter.unusedSectionVars false
namespace Go.Proofs.YtkhlfdcjgooogaaGreat.P
open Go.RowKit Go.Proofs.YtkhlfdcjgooogaaGreatW.PrintWords Go.Proofs.YtkhlfdcjgooogaaGreatW.PrintLast Go.Proofs.YtkhlfdcjgooogaaGreatW.PrintMore
abbrev NV:=ByteArray × Int × Int
def kNV : Kd NV:=Kd.pair Kd.string (Kd.pair (Kd.int .i64) (Kd.int .i64))
theorem kNV_open {w : World} {x : NV} {cs : List Value} (h : kNV.K w x cs) : cs = [.string x.1,.int .i64 x.2.1,.int .i64 x.2.2]:=by
 obtain ⟨c0,r0,rfl,h0,c1,r1,rfl,h1,h2⟩:=h
 have e0 : c0 = [.string x.1]:=h0
 have e1 : c1 = [.int .i64 x.2.1]:=h1
 have e2 : r1 = [.int .i64 x.2.2]:=h2
 rw [e0,e1,e2]
 rfl
def zNV : NV:=(⟨#[]⟩,0,0)
theorem nv_at {w : World} {A : Option Addr} {l : List NV} (h : Kd.C kNV w A l.length l) (i : Nat) (hi : i < l.length) :
  ∃ ad,A = some ad ∧ w.cell? (ad.add (i * 3)) = some (.string l[i].1) ∧ w.cell? ⟨(ad.add (i * 3)).block,(ad.add (i * 3)).off + 1,none⟩ = some (.int .i64 l[i].2.1) ∧ w.cell? ⟨(ad.add (i * 3)).block,(ad.add (i * 3)).off + 2,none⟩ = some (.int .i64 l[i].2.2):=by
 obtain ⟨ad,c,e,_,hK,hc0⟩:=Kd.C_get h zNV (i : Int) (by omega) (by omega)
 have hc : ∀ j u,c[j]? = some u → w.cell? (ad.add (i * 3 + j)) = some u:=fun j u hj => by have:=hc0 j u hj; rwa [Int.toNat_natCast] at this
 have hl : l.getD (i : Int).toNat zNV = l[i]:=by simp [hi]
 rw [hl] at hK
 have hcs:=kNV_open hK
 subst hcs
 exact ⟨ad,e,hc 0 _ rfl,by rw [← zBE _ _ 1 (by omega)]; exact hc 1 _ rfl,by rw [← zBE _ _ 2 (by omega)]; exact hc 2 _ rfl⟩
def nameF (l : List NV) (s : Nm) : Int × Int:=match l.find? (fun x => decide (x.1.data.toList = s)) with
 | some x => x.2
 | none => (0,0)
theorem eqB_is (t s : ByteArray) : (t.toList == s.toList) = decide (t.data.toList = s.data.toList):=by
 rw [zAI,zAI]
 by_cases h : t.data.toList = s.data.toList
 ·rw [h]; simp
 ·rw [decide_eq_false h]; exact beq_eq_false_iff_ne.2 h
theorem name1_is (b : Nat) (t s : ByteArray) (k m : Int) (w : World) (h : w.cell? ⟨b,0,none⟩ = some (.string s)) :
  Calls Tryz.prog 77 #[.agg #[.string t,.int .i64 k,.int .i64 m],.pointer (some ⟨b,0,none⟩)] w fun e w' => e = .returned (.bool (decide (t.data.toList = s.data.toList))) ∧ Below w.heap.size w w':=by
 have hb : b < w.heap.size:=World.block_lt_of_cell? w _ h
 have h1 : (w.alloc (.cells #[.string t,.int .i64 k,.int .i64 m] 48)).cell? ⟨b,0,none⟩ = some (.string s):=zAb (zAa (Below.refl _ _) _) h
 go_enter Tryz.func77,Tryz.ntmps77
 go_wp2_with fail
 go_ret
 exact ⟨by rw [← eqB_is]; rfl,zAa (Below.refl _ _) _⟩
theorem nameFind_is (b : Nat) (A : Option Addr) (c : Nat) (l : List NV) (hl : l.length ≤ 1000000) (hc : l.length ≤ c) (s : ByteArray) (w : World) (hC : Kd.C kNV w A l.length l) (h : w.cell? ⟨b,0,none⟩ = some (.string s)) :
  Calls Tryz.prog 76 #[.slice A l.length c,.func (.func 77) #[] #[.pointer (some ⟨b,0,none⟩)]] w fun e w' => ∃ v : Int,e = .returned (.int .i64 v) ∧ Hid ((v = -1 ∧ nameF l s.data.toList = (0,0)) ∨ ∃ i : Nat,v = i ∧ ∃ hi : i < l.length,l[i].2 = nameF l s.data.toList) ∧ Below w.heap.size w w':=by
 have HC:=Lib.hid hC
 have HS:=Lib.hid h
 clear hC h
 go_enter Tryz.func76,Tryz.ntmps76
 go_wp2_with fail
 go_loopg [8] (l.length + 1) (fun kq v8 W => ∃ i : Nat,v8 = .int .i64 i ∧ i ≤ l.length ∧ Hid (i + kq = l.length + 1) ∧ Hid (∀ x ∈ l.take i,x.1.data.toList ≠ s.data.toList) ∧ Hid (Below w.heap.size w W))
 case atStart => exact ⟨0,rfl,Nat.zero_le _,Lib.hid (by omega),Lib.hid (fun x hx => by simp at hx),Lib.hid (Below.refl _ _)⟩
 case round =>
  obtain ⟨i,rfl,hi,HN,HA,HB⟩:=hrel
  by_cases hlt : i < l.length
  ·obtain ⟨ad,eA,z0,z1,z2⟩:=nv_at (Kd.C_below HC.out HB.out) i hlt
   have htk : l.take (i + 1) = l.take i ++ [l[i]]:=List.take_succ_eq_append_getElem hlt
   have hfi : (∀ x ∈ l.take i,x.1.data.toList ≠ s.data.toList) → l[i].1.data.toList = s.data.toList → l[i].2 = nameF l s.data.toList:=fun h1 h2 => by
    have : l = l.take i ++ l[i] :: l.drop (i + 1):=by rw [← List.drop_eq_getElem_cons hlt,List.take_append_drop]
    have hf : l.find? (fun x => decide (x.1.data.toList = s.data.toList)) = some l[i]:=by
     refine (congrArg (List.find? (fun x => decide (x.1.data.toList = s.data.toList))) this).trans ?_
     rw [List.find?_append,List.find?_eq_none.2 (fun x hx => by rw [decide_eq_false (h1 x hx)]; decide),List.find?_cons_of_pos (by exact decide_eq_true h2)]
     rfl
    unfold nameF
    rw [hf]
   have HFI:=Lib.hid hfi
   have HTK:=Lib.hid htk
   obtain ⟨x,hx⟩ : ∃ x,x = l[i]:=⟨_,rfl⟩
   rw [← hx] at z0 z1 z2 HFI HTK
   obtain ⟨t,k,m⟩:=x
   dsimp only at z0 z1 z2 HFI
   have HX:=Lib.hid (name1_is b t s k m wr ((HB.out.cell (World.block_lt_of_cell? w _ HS.out)).trans HS.out))
   have HXX:=Lib.hid hx
   cases eA
   clear htk hfi hx
   cases hok : decide (t.data.toList = s.data.toList) with
   | false =>
    rw [hok] at HX
    have HOK:=Lib.hid (of_decide_eq_false hok)
    clear hok
    go_wp2_with fail
    refine HX.out.mono ?_
    rintro e_ W2 ⟨rfl,hb_⟩
    have HB2:=Lib.hid (zAd HB.out hb_)
    clear hb_
    go_wp2_with fail
    go_roundg (gk - 1)
    case measure => have:=HN.out; omega
    case rel => exact ⟨i + 1,by norm_cast,hlt,Lib.hid (by have:=HN.out; omega),Lib.hid (by
     intro x hx
     rw [HTK.out] at hx
     rcases List.mem_append.1 hx with hx | hx
     ·exact HA.out x hx
     ·rw [List.mem_singleton.1 hx]
      exact HOK.out),HB2⟩
   | true =>
    rw [hok] at HX
    have HOK:=Lib.hid (of_decide_eq_true hok)
    clear hok
    go_wp2_with fail
    refine HX.out.mono ?_
    rintro e_ W2 ⟨rfl,hb_⟩
    have HB2:=Lib.hid (zAd HB.out hb_)
    clear hb_
    go_wp2_with fail
    go_ret
    exact ⟨i,rfl,Lib.hid (.inr ⟨i,rfl,hlt,by rw [← HXX.out]; exact HFI.out HA.out HOK.out⟩),HB2.out⟩
  ·obtain rfl : i = l.length:=by omega
   have hall:=HA.out
   rw [List.take_length] at hall
   have HALL:=Lib.hid hall
   clear hall
   go_wp2_with fail
   go_ret
   exact ⟨-1,rfl,Lib.hid (.inl ⟨rfl,by unfold nameF; rw [List.find?_eq_none.2 (fun x hx => by rw [decide_eq_false (HALL.out x hx)]; decide)]⟩),HB.out⟩
theorem rProc_is (At : Option Addr) (ct : Nat) (ns : List S66) (root : Int) (ol ps : List Int) (s : ByteArray) (w : World) (hW : RW At ct ns root ol ps w) (hRT : RightC At ct ns root true w) :
  Calls Tryz.prog 48 #[.agg #[.slice At ns.length ct,.int .i64 root],.string s] w fun e w' => e = .returned (.int .i64 (procF ns s.data.toList)) ∧ Below w.heap.size w w':=by
 obtain ⟨W0,hW0⟩ : ∃ W0,W0 = w.alloc (.cells #[.slice At ns.length ct,.int .i64 root] 24):=⟨_,rfl⟩
 have HB0:=Lib.hid (box_ref At ct ns root w W0 hW0).1
 have X0:=Lib.hid (box_ref At ct ns root w W0 hW0).2
 have HX:=Lib.hid (hRT W0 HB0.out)
 have HW0:=Lib.hid hW0
 have hrt:=rt_in hW.hR
 have HP:=Lib.hid (fun (W : World) (hb : Below w.heap.size w W) => of_is At ct ns root root hrt.1 hrt.2 hW.hR.kidsIn 3 3 s W (hW.below hb).hC hW.hct)
 rw [of_pr hW.hR] at HP
 obtain ⟨p,hp⟩ : ∃ p,p = procF ns s.data.toList:=⟨_,rfl⟩
 rw [← hp] at HP ⊢
 clear hW0 hW hRT hrt hp
 go_enter Tryz.func48,Tryz.ntmps48
 go_wp2_with fail
 rw [← HW0.out]
 refine HX.out.mono ?_
 rintro e_ W1 ⟨rfl,hb_⟩
 have HB1:=Lib.hid (zAd HB0.out hb_)
 have X1:=Lib.hid (zAe X0.out hb_)
 clear hb_
 have c0:=bc_ X1.out 0
 have c1:=bc_ X1.out 1
 go_wp2_with fail
 refine (HP.out W1 HB1.out).mono ?_
 rintro e_ W2 ⟨rfl,hb_⟩
 have HB2:=Lib.hid (zAd HB1.out hb_)
 clear hb_ c0 c1
 go_wp2_with fail
 go_ret
 exact ⟨rfl,HB2.out⟩
theorem rType_is (At : Option Addr) (ct : Nat) (ns : List S66) (root : Int) (ol ps : List Int) (q : Int) (h0 : 0 ≤ q) (h1 : q < ns.length) (w : World) (hW : RW At ct ns root ol ps w) (hRT : RightC At ct ns root true w) :
  Calls Tryz.prog 50 #[.agg #[.slice At ns.length ct,.int .i64 root],.int .i64 q] w fun e w' => e = .returned (.int .i64 (exprF ns ol q)) ∧ Below w.heap.size w w':=by
 obtain ⟨W0,hW0⟩ : ∃ W0,W0 = w.alloc (.cells #[.slice At ns.length ct,.int .i64 root] 24):=⟨_,rfl⟩
 have HB0:=Lib.hid (box_ref At ct ns root w W0 hW0).1
 have X0:=Lib.hid (box_ref At ct ns root w W0 hW0).2
 have HX:=Lib.hid (hRT W0 HB0.out)
 have HW0:=Lib.hid hW0
 have HP:=Lib.hid (fun (W : World) (hb : Below w.heap.size w W) => zCE At ct ns root ol ps q h0 h1 W (hW.below hb))
 obtain ⟨p,hp⟩ : ∃ p,p = exprF ns ol q:=⟨_,rfl⟩
 rw [← hp] at HP ⊢
 have g0 : ¬ q < 0:=by omega
 have g1 : ¬ (ns.length : Int) ≤ q:=by omega
 clear hW0 hW hRT hp
 go_enter Tryz.func50,Tryz.ntmps50
 go_wp2_with fail
 rw [← HW0.out]
 refine HX.out.mono ?_
 rintro e_ W1 ⟨rfl,hb_⟩
 have HB1:=Lib.hid (zAd HB0.out hb_)
 have X1:=Lib.hid (zAe X0.out hb_)
 clear hb_
 have c0:=bc_ X1.out 0
 have c1:=bc_ X1.out 1
 go_wp2_with fail
 refine (HP.out W1 HB1.out).mono ?_
 rintro e_ W2 ⟨rfl,hb_⟩
 have HB2:=Lib.hid (zAd HB1.out hb_)
 clear hb_ c0 c1
 go_wp2_with fail
 go_ret
 exact ⟨rfl,HB2.out⟩
theorem zDp (A : Option Addr) (c : Nat) (l : List NV) (hl : l.length ≤ 1000000) (hc : l.length ≤ c) (s : ByteArray) (w : World) (hC : Kd.C kNV w A l.length l) :
  Calls Tryz.prog 46 #[.slice A l.length c,.string s] w fun e w' => e = .returned (.agg #[.int .i64 (nameF l s.data.toList).1,.int .i64 (nameF l s.data.toList).2]) ∧ Below w.heap.size w w':=by
 obtain ⟨W0,hW0⟩ : ∃ W0,W0 = w.alloc (.cells #[.int .i64 0,.int .i64 0] 49):=⟨_,rfl⟩
 have HB0 : Hid (Below w.heap.size w W0):=Lib.hid (by rw [hW0]; exact zAa (Below.refl _ _) _)
 have X0 : Hid (W0.heap[w.heap.size]? = some (.cells #[.int .i64 0,.int .i64 0] 49 (0,0))):=Lib.hid (by rw [hW0]; exact blk_new w _)
 have HW0:=Lib.hid hW0
 have HC:=Lib.hid hC
 have hnf : ∀ i,i ≤ l.length → (∀ x ∈ l.take i,x.1.data.toList ≠ s.data.toList) → nameF l s.data.toList = nameF (l.drop i) s.data.toList:=fun i _ h => by
  unfold nameF
  conv => lhs; rw [← List.take_append_drop i l]
  rw [List.find?_append,List.find?_eq_none.2 (fun x hx => by rw [decide_eq_false (h x hx)]; decide)]
  rfl
 have HNF:=Lib.hid hnf
 obtain ⟨r,hr⟩ : ∃ r,r = nameF l s.data.toList:=⟨_,rfl⟩
 rw [← hr] at HNF ⊢
 clear hW0 hC hnf hr
 go_enter Tryz.func46,Tryz.ntmps46
 go_wp2_with fail
 rw [← HW0.out]
 go_loopg [5] (l.length + 1) (fun kq v5 W => ∃ i : Nat,v5 = .int .i64 i ∧ i ≤ l.length ∧ Hid (i + kq = l.length + 1) ∧ Hid (∀ x ∈ l.take i,x.1.data.toList ≠ s.data.toList) ∧ Hid (Below w.heap.size w W) ∧ Hid (W.heap[w.heap.size]? = some (.cells #[.int .i64 0,.int .i64 0] 49 (0,0))))
 case atStart => exact ⟨0,rfl,Nat.zero_le _,Lib.hid (by omega),Lib.hid (fun x hx => by simp at hx),HB0,X0⟩
 case round =>
  obtain ⟨i,rfl,hi,HN,HA,HB,X⟩:=hrel
  have hrr:=HNF.out i hi HA.out
  have d0:=bc_ X.out 0
  have d1:=bc_ X.out 1
  have f0:=zAc X.out 0
  have f1:=zAc X.out 1
  by_cases hlt : i < l.length
  ·obtain ⟨ad,eA,z0,z1,z2⟩:=nv_at (Kd.C_below HC.out HB.out) i hlt
   have htk : l.take (i + 1) = l.take i ++ [l[i]]:=List.take_succ_eq_append_getElem hlt
   rw [List.drop_eq_getElem_cons hlt] at hrr
   obtain ⟨x,hx⟩ : ∃ x,x = l[i]:=⟨_,rfl⟩
   rw [← hx] at z0 z1 z2 htk hrr
   obtain ⟨t,k,m⟩:=x
   dsimp only at z0 z1 z2
   have hEQ:=eqB_is t s
   have HTK:=Lib.hid htk
   have HRR:=Lib.hid hrr
   cases eA
   clear hx htk hrr
   by_cases hok : t.data.toList = s.data.toList
   ·rw [decide_eq_true hok] at hEQ
    have HV : Hid (r = (k,m)):=Lib.hid (by rw [HRR.out]; unfold nameF; rw [List.find?_cons_of_pos (by exact decide_eq_true hok)])
    clear hok HRR
    go_wp2_with fail
    refine bodyPost_ret (results_cell_row rfl _ _ w.heap.size 49 #[.int .i64 k,.int .i64 m] (0,0) _ rfl (blk_put (blk_put X.out 0 _ rfl) 1 _ rfl) Tryz.underlying49 rfl (by kernel_rfl)) rfl ?_
    exact ⟨by rw [HV.out],(HB.out.setCell (Nat.le_refl _) _).setCell (Nat.le_refl _) _⟩
   ·rw [decide_eq_false hok] at hEQ
    have HOK:=Lib.hid hok
    clear hok HRR
    go_wp2_with fail
    go_roundg (gk - 1)
    case measure => have:=HN.out; omega
    case rel => exact ⟨i + 1,by norm_cast,hlt,Lib.hid (by have:=HN.out; omega),Lib.hid (by
     intro x hx
     rw [HTK.out] at hx
     rcases List.mem_append.1 hx with hx | hx
     ·exact HA.out x hx
     ·rw [List.mem_singleton.1 hx]
      exact HOK.out),HB,X⟩
  ·obtain rfl : i = l.length:=by omega
   have HV : Hid (r = (0,0)):=Lib.hid (by rw [hrr,List.drop_length]; rfl)
   clear hrr
   go_wp2_with fail
   refine bodyPost_ret (results_cell_row rfl _ _ w.heap.size 49 #[.int .i64 0,.int .i64 0] (0,0) _ rfl (blk_put (blk_put X.out 0 _ rfl) 1 _ rfl) Tryz.underlying49 rfl (by kernel_rfl)) rfl ?_
   exact ⟨by rw [HV.out],(HB.out.setCell (Nat.le_refl _) _).setCell (Nat.le_refl _) _⟩
theorem getD_lt {α : Type} (l : List α) (d : α) {i : Nat} (h : i < l.length) : l.getD i d = l[i]:=by simp [List.getD_eq_getElem?_getD,h]
def ints (xs : List Int) : List Value:=xs.map (Value.int .i64)
def rows : List (Nat × Nat) → List (List Int) → List Value
 | g :: gs,xs :: L => .slice (some ⟨g.1,0,none⟩) xs.length g.2 :: rows gs L
 | _,_ => []
def cellsOf : List (List Int) → Int
 | [] => 0
 | xs :: L => 1 + xs.length + cellsOf L
structure Arrs (W : World) (ok : Nat → Prop) (v : Value) (gs : List (Nat × Nat)) (L : List (List Int)) : Prop where
 own : W.ownsRow 0 64 1 v L.length (rows gs L)
 vok : ∀ k,v.ownBlock = some k → ok k
 len : gs.length = L.length
 nd : (gs.map Prod.fst).Nodup
 at_ : ∀ j (h : j < gs.length) (h' : j < L.length),ok gs[j].1 ∧ ∃ cur,W.heap[gs[j].1]? = some (.cells cur 3 (0,0)) ∧ cur.toList.take L[j].length = ints L[j]
structure HA (W : World) (B : Nat) (ok : Nat → Prop) (L : List (List Int)) : Prop where
 bok : ok B
 arrs : ∃ v gs,W.heap[B]? = some (.cells #[v,.int .i64 (cellsOf L)] 37 (0,0)) ∧ Arrs W ok v gs L
structure HR (W : World) (B : Nat) (ok : Nat → Prop) (L : List (List Int)) : Prop where
 bok : ok B
 arrs : ∃ v gs,W.heap[B]? = some (.cells #[v] 40 (0,0)) ∧ Arrs W ok v gs L
theorem own_lt {W : World} {base : Nat} {e : TypeId} {size n : Nat} {v : Value} {xs : List Value} (h : W.ownsRow base e size v n xs) : ∀ k,v.ownBlock = some k → k < W.heap.size:=fun k hk => (h.lt k hk).2
theorem Arrs.step {W W' : World} {ok : Nat → Prop} {v : Value} {gs : List (Nat × Nat)} {L : List (List Int)} (h : Arrs W ok v gs L) (hs : ∀ k,k < W.heap.size → ok k → W'.heap[k]? = W.heap[k]?) : Arrs W' ok v gs L :=
 ⟨zCj h.own (fun k hk => hs k (own_lt h.own k hk) (h.vok k hk)),h.vok,h.len,h.nd,fun j hj hj' => ⟨(h.at_ j hj hj').1,let ⟨cur,h1,h2⟩:=(h.at_ j hj hj').2; ⟨cur,(hs _ (blk_lt h1) (h.at_ j hj hj').1).trans h1,h2⟩⟩⟩
theorem HA.step {W W' : World} {B : Nat} {ok : Nat → Prop} {L : List (List Int)} (h : HA W B ok L) (hs : ∀ k,k < W.heap.size → ok k → W'.heap[k]? = W.heap[k]?) : HA W' B ok L:=by
 obtain ⟨v,gs,h1,h2⟩:=h.arrs
 exact ⟨h.bok,v,gs,(hs _ (blk_lt h1) h.bok).trans h1,h2.step hs⟩
theorem HR.step {W W' : World} {B : Nat} {ok : Nat → Prop} {L : List (List Int)} (h : HR W B ok L) (hs : ∀ k,k < W.heap.size → ok k → W'.heap[k]? = W.heap[k]?) : HR W' B ok L:=by
 obtain ⟨v,gs,h1,h2⟩:=h.arrs
 exact ⟨h.bok,v,gs,(hs _ (blk_lt h1) h.bok).trans h1,h2.step hs⟩
theorem HA.below {W W' : World} {B : Nat} {ok : Nat → Prop} {L : List (List Int)} (h : HA W B ok L) (hb : Below W.heap.size W W') : HA W' B ok L:=h.step (fun k hk _ => hb.block k hk)
theorem HR.below {W W' : World} {B : Nat} {ok : Nat → Prop} {L : List (List Int)} (h : HR W B ok L) (hb : Below W.heap.size W W') : HR W' B ok L:=h.step (fun k hk _ => hb.block k hk)
theorem rows_get : ∀ (gs : List (Nat × Nat)) (L : List (List Int)) (j : Nat) (h : j < gs.length) (h' : j < L.length),(rows gs L)[j]? = some (.slice (some ⟨gs[j].1,0,none⟩) L[j].length gs[j].2)
 | g :: gs,xs :: L,0,h,h' => rfl
 | g :: gs,xs :: L,j + 1,h,h' => by simpa [rows] using rows_get gs L j (by simpa using h) (by simpa using h')
 | [],_,_,h,_ => by simp at h
 | _ :: _,[],_,_,h' => by simp at h'
theorem Arrs.get {W : World} {ok : Nat → Prop} {v : Value} {gs : List (Nat × Nat)} {L : List (List Int)} (h : Arrs W ok v gs L) : ∃ A c,v = .slice A L.length c ∧ (L.length = 0 ∨ ∃ g,A = some ⟨g,0,none⟩ ∧ g < W.heap.size ∧ ∀ j (hj : j < gs.length) (hj' : j < L.length),W.cell? ⟨g,j,none⟩ = some (.slice (some ⟨gs[j].1,0,none⟩) L[j].length gs[j].2)):=by
 obtain ⟨hl,ho⟩:=h.own
 rcases ho with ⟨e,h0⟩ | ⟨g,cap,cur,e,hb,hh,h1,h2,h3,h4⟩
 ·exact ⟨none,0,by rw [e,h0],.inl h0⟩
 ·refine ⟨_,cap,e,.inr ⟨g,rfl,blk_lt hh,fun j hj hj' => ?_⟩⟩
  rw [zAh hh j]
  have hr:=rows_get gs L j hj hj'
  rw [← h4,List.getElem?_take] at hr
  split at hr
  ·simpa using hr
  ·cases hr
theorem row_cell {W : World} {d : Nat} {l : List Int} {cur : Array Value} (h : W.heap[d]? = some (.cells cur 3 (0,0))) (hc : cur.toList.take l.length = ints l) {i : Nat} (hi : i < l.length) : W.cell? ⟨d,i,none⟩ = some (.int .i64 (l.getD i 0)):=by
 rw [zAh h i,getD_lt _ _ hi,← Array.getElem?_toList,← List.getElem?_take_of_lt hi,hc]
 simp [ints,hi]
structure RowAt (W : World) (ok : Nat → Prop) (d : Nat) (l : List Int) : Prop where
 lt : d < W.heap.size
 ok : ok d
 cell : ∀ i,i < l.length → W.cell? ⟨d,i,none⟩ = some (.int .i64 (l.getD i 0))
 frozen : ∀ i,W.frozen? ⟨d,i,none⟩ = false
theorem Arrs.one {W : World} {ok : Nat → Prop} {v : Value} {gs : List (Nat × Nat)} {L : List (List Int)} (h : Arrs W ok v gs L) {n : Int} (h1 : 1 ≤ n) (h2 : n ≤ (L.length : Int)) :
  ∃ g c d q,v = .slice (some ⟨g,0,none⟩) L.length c ∧ g < W.heap.size ∧ gs[(n - 1).toNat]? = some (d,q) ∧ W.cell? ⟨g,n.toNat - 1,none⟩ = some (.slice (some ⟨d,0,none⟩) (L.getD (n - 1).toNat []).length q) ∧ RowAt W ok d (L.getD (n - 1).toNat []):=by
 obtain ⟨A,c,rfl,hr⟩:=h.get
 rcases hr with h0 | ⟨g,rfl,hg,hr⟩
 ·omega
 ·have hj' : (n - 1).toNat < L.length:=by omega
  have hj : (n - 1).toNat < gs.length:=by rw [h.len]; exact hj'
  have e : n.toNat - 1 = (n - 1).toNat:=by omega
  obtain ⟨hok,cur,hb,hc⟩:=h.at_ _ hj hj'
  refine ⟨g,c,gs[(n - 1).toNat].1,gs[(n - 1).toNat].2,rfl,hg,List.getElem?_eq_getElem hj,?_,?_⟩
  ·rw [e,getD_lt _ _ hj']
   exact hr _ hj hj'
  ·rw [getD_lt _ _ hj']
   exact ⟨blk_lt hb,hok,fun i hi => row_cell hb hc hi,fun i => zAc hb i⟩
theorem zAW {b n : Nat} {w w' : World} (h : Below b w w') : Below b w (w'.drewN n):=by
 exact ⟨h.os,h.tape,h.output,h.size,h.block⟩
theorem array_no1 (B : Nat) (A : Option Addr) (l c : Nat) (x : Value) (a n : Int) (w : World) (hB : w.heap[B]? = some (.cells #[.slice A l c,x] 37 (0,0))) (hl : l ≤ 1000000) (h3 : a ≠ 3) :
  Calls Tryz.prog 53 #[.pointer (some ⟨B,0,none⟩),.agg #[.int .i64 a,.int .i64 n]] w fun e w' => e = .returned (.tuple #[.slice none 0 0,.bool false]) ∧ Below w.heap.size w w':=by
 have b0:=zAh hB 0
 have hlt:=blk_lt hB
 have d1 : (a != 3) = true:=by simp [h3]
 clear h3 hB
 go_enter Tryz.func53,Tryz.ntmps53
 go_wp2_with fail
 go_quiet (fail)
 go_wp2_with fail
 go_ret2
 exact ⟨rfl,zAW ((Below.refl _ _).alloc (Nat.le_refl _) _)⟩
theorem array_no2 (B : Nat) (A : Option Addr) (l c : Nat) (x : Value) (n : Int) (w : World) (hB : w.heap[B]? = some (.cells #[.slice A l c,x] 37 (0,0))) (hl : l ≤ 1000000) (h1 : n < 1) :
  Calls Tryz.prog 53 #[.pointer (some ⟨B,0,none⟩),.agg #[.int .i64 3,.int .i64 n]] w fun e w' => e = .returned (.tuple #[.slice none 0 0,.bool false]) ∧ Below w.heap.size w w':=by
 have b0:=zAh hB 0
 have hlt:=blk_lt hB
 have d2 : decide (n < 1) = true:=by simp [h1]
 clear h1 hB
 go_enter Tryz.func53,Tryz.ntmps53
 go_wp2_with fail
 go_quiet (fail)
 go_wp2_with fail
 go_ret2
 exact ⟨rfl,zAW ((Below.refl _ _).alloc (Nat.le_refl _) _)⟩
theorem array_no3 (B : Nat) (A : Option Addr) (l c : Nat) (x : Value) (n : Int) (w : World) (hB : w.heap[B]? = some (.cells #[.slice A l c,x] 37 (0,0))) (hl : l ≤ 1000000) (h1 : 1 ≤ n) (h2 : (l : Int) < n) :
  Calls Tryz.prog 53 #[.pointer (some ⟨B,0,none⟩),.agg #[.int .i64 3,.int .i64 n]] w fun e w' => e = .returned (.tuple #[.slice none 0 0,.bool false]) ∧ Below w.heap.size w w':=by
 have b0:=zAh hB 0
 have hlt:=blk_lt hB
 have d2 : decide (n < 1) = false:=by simp; omega
 have d3 : decide ((l : Int) < n) = true:=by simp; omega
 clear h1 h2 hB
 go_enter Tryz.func53,Tryz.ntmps53
 go_wp2_with fail
 go_quiet (fail)
 go_wp2_with fail
 go_ret2
 exact ⟨rfl,zAW ((Below.refl _ _).alloc (Nat.le_refl _) _)⟩
theorem array_yes (B g l c : Nat) (x : Value) (a1 : Option Addr) (l1 c1 : Nat) (n : Int) (w : World) (hB : w.heap[B]? = some (.cells #[.slice (some ⟨g,0,none⟩) l c,x] 37 (0,0))) (hl : l ≤ 1000000) (h1 : 1 ≤ n) (h2 : n ≤ (l : Int)) (hg : g < w.heap.size) (hc : w.cell? ⟨g,n.toNat - 1,none⟩ = some (.slice a1 l1 c1)) :
  Calls Tryz.prog 53 #[.pointer (some ⟨B,0,none⟩),.agg #[.int .i64 3,.int .i64 n]] w fun e w' => e = .returned (.tuple #[.slice a1 l1 c1,.bool true]) ∧ Below w.heap.size w w':=by
 have b0:=zAh hB 0
 have hlt:=blk_lt hB
 have d2 : decide (n < 1) = false:=by simp; omega
 have d3 : decide ((l : Int) < n) = false:=by simp; omega
 have hw : IntKind.i64.wrap (n - 1) = n - 1:=IntWalk.i64_in _ (by omega)
 have hn0 : 0 ≤ n - 1:=by omega
 have hn1 : n - 1 < (l : Int):=by omega
 clear hB
 go_enter Tryz.func53,Tryz.ntmps53
 go_wp2_with fail
 go_quiet (fail)
 go_wp2_with fail
 go_quiet (fail)
 go_wp2_with fail
 go_ret2
 exact ⟨rfl,zAW (zAW ((Below.refl _ _).alloc (Nat.le_refl _) _))⟩
def isB (L : List (List Int)) (a n : Int) : Bool:=decide (a = 3 ∧ 1 ≤ n ∧ n ≤ (L.length : Int))
def arrAt (L : List (List Int)) (n : Int) : List Int:=L.getD (n - 1).toNat []
theorem array_no {w : World} {B : Nat} {ok : Nat → Prop} {L : List (List Int)} {v x : Value} {gs : List (Nat × Nat)} (hB : w.heap[B]? = some (.cells #[v,x] 37 (0,0))) (hA : Arrs w ok v gs L) (hl : L.length ≤ 1000000) (a n : Int) (h : isB L a n = false) :
  Calls Tryz.prog 53 #[.pointer (some ⟨B,0,none⟩),.agg #[.int .i64 a,.int .i64 n]] w fun e w' => e = .returned (.tuple #[.slice none 0 0,.bool false]) ∧ Below w.heap.size w w':=by
 obtain ⟨A,c,rfl,_⟩:=hA.get
 have h' : ¬ (a = 3 ∧ 1 ≤ n ∧ n ≤ (L.length : Int)):=of_decide_eq_false h
 by_cases h3 : a = 3
 ·subst h3
  by_cases h1 : n < 1
  ·exact array_no2 B A _ c x n w hB hl h1
  ·exact array_no3 B A _ c x n w hB hl (by omega) (by omega)
 ·exact array_no1 B A _ c x a n w hB hl h3
theorem zDf {w : World} {B g l c d m q : Nat} {x : Value} (n : Int) (hB : w.heap[B]? = some (.cells #[.slice (some ⟨g,0,none⟩) l c,x] 37 (0,0))) (hl : l ≤ 1000000) (h1 : 1 ≤ n) (h2 : n ≤ (l : Int)) (hg : g < w.heap.size) (hc : w.cell? ⟨g,n.toNat - 1,none⟩ = some (.slice (some ⟨d,0,none⟩) m q)) :
  Calls Tryz.prog 53 #[.pointer (some ⟨B,0,none⟩),.agg #[.int .i64 3,.int .i64 n]] w fun e w' => e = .returned (.tuple #[.slice (some ⟨d,0,none⟩) m q,.bool true]) ∧ Below w.heap.size w w':=array_yes B g l c x _ m q n w hB hl h1 h2 hg hc
theorem cell_missing {w : World} {B : Nat} {ok : Nat → Prop} {L : List (List Int)} {v x : Value} {gs : List (Nat × Nat)} (hB : w.heap[B]? = some (.cells #[v,x] 37 (0,0))) (hA : Arrs w ok v gs L) (hl : L.length ≤ 1000000) (a n k i : Int) (h : isB L a n = false) :
  Calls Tryz.prog 28 #[.pointer (some ⟨B,0,none⟩),.agg #[.int .i64 a,.int .i64 n],.agg #[.int .i64 k,.int .i64 i]] w fun e w' => e = .returned (.tuple #[.pointer none,.int .i64 3]) ∧ Below w.heap.size w w':=by
 have hB1 : ((w.alloc (.cells #[.int .i64 a,.int .i64 n] 43)).alloc (.cells #[.int .i64 k,.int .i64 i] 43)).heap[B]? = some (.cells #[v,x] 37 (0,0)):=zAj (zAj hB _) _
 have hb0 : Below w.heap.size w ((w.alloc (.cells #[.int .i64 a,.int .i64 n] 43)).alloc (.cells #[.int .i64 k,.int .i64 i] 43)):=zAa (zAa (Below.refl _ _) _) _
 have hA1:=hA.step (W':=(w.alloc (.cells #[.int .i64 a,.int .i64 n] 43)).alloc (.cells #[.int .i64 k,.int .i64 i] 43)) (fun k hk _ => hb0.block k hk)
 have H:=Lib.hid (array_no hB1 hA1 hl a n h)
 clear h hA hB hA1 hB1
 go_enter Tryz.func28,Tryz.ntmps28
 go_wp2_with (go_at_call 53; refine H.out.mono ?_; rintro e w1 ⟨rfl,hb⟩)
 go_ret2
 exact ⟨rfl,zAd hb0 hb⟩
theorem cell_range1 {w : World} {B g l c d m q : Nat} {x : Value} (n k i : Int) (hB : w.heap[B]? = some (.cells #[.slice (some ⟨g,0,none⟩) l c,x] 37 (0,0))) (hl : l ≤ 1000000) (h1 : 1 ≤ n) (h2 : n ≤ (l : Int)) (hg : g < w.heap.size) (hc : w.cell? ⟨g,n.toNat - 1,none⟩ = some (.slice (some ⟨d,0,none⟩) m q)) (hm : m ≤ 1000000) (hr : k ≠ 1 ∨ i < 0 ∨ (m : Int) ≤ i) :
  Calls Tryz.prog 28 #[.pointer (some ⟨B,0,none⟩),.agg #[.int .i64 3,.int .i64 n],.agg #[.int .i64 k,.int .i64 i]] w fun e w' => e = .returned (.tuple #[.pointer none,.int .i64 2]) ∧ Below w.heap.size w w':=by
 have hB1 : ((w.alloc (.cells #[.int .i64 3,.int .i64 n] 43)).alloc (.cells #[.int .i64 k,.int .i64 i] 43)).heap[B]? = some (.cells #[.slice (some ⟨g,0,none⟩) l c,x] 37 (0,0)):=zAj (zAj hB _) _
 have hb0 : Below w.heap.size w ((w.alloc (.cells #[.int .i64 3,.int .i64 n] 43)).alloc (.cells #[.int .i64 k,.int .i64 i] 43)):=zAa (zAa (Below.refl _ _) _) _
 have hc1 : ((w.alloc (.cells #[.int .i64 3,.int .i64 n] 43)).alloc (.cells #[.int .i64 k,.int .i64 i] 43)).cell? ⟨g,n.toNat - 1,none⟩ = some (.slice (some ⟨d,0,none⟩) m q):=zAb hb0 hc
 have H:=Lib.hid (zDf n hB1 hl h1 h2 (by simp; omega) hc1)
 clear hc hB hc1 hB1 h1 h2
 by_cases h1 : k = 1
 ·subst h1
  by_cases h2 : i < 0
  ·have d2 : decide (i < 0) = true:=by simp [h2]
   clear hr h2
   go_enter Tryz.func28,Tryz.ntmps28
   go_wp2_with (go_at_call 53; refine H.out.mono ?_; rintro e w1 ⟨rfl,hb⟩; obtain ⟨hbc,hbf⟩:=bcell hb)
   go_ret2
   exact ⟨rfl,zAd hb0 hb⟩
  ·have h3 : (m : Int) ≤ i:=by omega
   have d2 : decide (i < 0) = false:=by simp; omega
   clear hr h2
   go_enter Tryz.func28,Tryz.ntmps28
   go_wp2_with (go_at_call 53; refine H.out.mono ?_; rintro e w1 ⟨rfl,hb⟩; obtain ⟨hbc,hbf⟩:=bcell hb)
   go_ret2
   exact ⟨rfl,zAd hb0 hb⟩
 ·have d1 : (k == 1) = false:=by simp [h1]
  have d2 : (k != 1) = true:=by simp [h1]
  clear hr h1
  go_enter Tryz.func28,Tryz.ntmps28
  go_wp2_with (go_at_call 53; refine H.out.mono ?_; rintro e w1 ⟨rfl,hb⟩; obtain ⟨hbc,hbf⟩:=bcell hb)
  go_ret2
  exact ⟨rfl,zAd hb0 hb⟩
attribute [local go_sem] zAP zAQ max_two min_two zAK zAJ zAS zAR
def zCa.f (a0 : Int) : Option (Int × Int):=some (1,a0)
theorem zCa.calls (a0 : Int) (r1 : Int) (r2 : Int) (w : World) (h : zCa.f a0 = some (r1,r2)) :
  Calls Tryz.prog 29 #[.int .i64 a0] w fun e w' => e = .returned (.agg #[.int .i64 r1,.int .i64 r2]) ∧ Below w.heap.size w w':=by
 have hu43:=Tryz.underlying43
 have HB:=Aside0.mk (Below.refl w.heap.size w)
 have H : (some (1,a0)) = some (r1,r2):=h
 clear h
 simp only [Option.some.injEq,Prod.mk.injEq] at H
 obtain ⟨rfl,rfl⟩:=H
 go_enter Tryz.func29,Tryz.ntmps29
 go_wp2_with (first | ((with_reducible refine zAZ (N:=2) rfl ?_); refine zBa ?hg (N:=2) ?hd (cs:=#[.int .i64 0,.int .i64 0]) (t:=43) ?hr ?_; (case hd => rfl); (case hg => rfl); (case hr => first | (go_simp; done) | (go_simp; rfl)); intro gb107 hg w2 hbox hb; have n0_:=Aside0.mk (zAd (by repeat (first | (with_reducible first | exact HB.out | apply zAa | apply zAf | apply zAi) | exact HB.out)) hb); have n1_:=Aside0.mk (hbox); have n2_:=Aside0.mk ((by rw [hg]; exact (zAy (by repeat (first | (with_reducible first | exact HB.out | apply zAa | apply zAf | apply zAi) | exact HB.out))) : w.heap.size ≤ gb107)); have n3_:=Aside0.mk ((by rw [hg]; exact (zAy (by repeat (first | (with_reducible first | exact HB.out | apply zAa | apply zAf | apply zAi) | exact HB.out))) : w.heap.size ≤ gb107)); clear HB; have HB:=n0_; have BK107:=n1_; have GW107:=n2_; have GE107:=n3_; clear n0_ n1_ n2_ n3_; clear hb hbox hg; have hcz3_0 : w2.cell? ⟨gb107,0,none⟩ = some (.int .i64 0):=(zAh BK107.out 0).trans rfl; have hcz3_1 : w2.cell? ⟨gb107,1,none⟩ = some (.int .i64 0):=(zAh BK107.out 1).trans rfl; have hfz3_0:=zAc BK107.out 0; have hfz3_1:=zAc BK107.out 1))
 refine bodyPost_ret (results_cell_row rfl _ _ gb107 43 #[.int .i64 1,.int .i64 a0] (0,0) _ rfl (by (with_reducible repeat (first | apply zAo | apply zAl | apply zAj)); refine blk_put (cs:=#[.int .i64 1,.int .i64 0]) ?_ 1 _ rfl; (with_reducible repeat (first | apply zAo | apply zAl | apply zAj)); refine blk_put (cs:=#[.int .i64 0,.int .i64 0]) ?_ 0 _ rfl; (with_reducible repeat (first | apply zAo | apply zAl | apply zAj)); exact BK107.out) Tryz.underlying43 rfl (by kernel_rfl)) rfl ?_
 exact ⟨by first | rfl | (simp [zAs,zAt] <;> rfl) | (simp [*,zAs,zAt] <;> rfl),by repeat (first | (with_reducible first | exact HB.out | apply zAa | apply zAf | apply zAi | refine zAu ?_ GE107.out) | exact HB.out)⟩
end Go.Proofs.YtkhlfdcjgooogaaGreat.P
