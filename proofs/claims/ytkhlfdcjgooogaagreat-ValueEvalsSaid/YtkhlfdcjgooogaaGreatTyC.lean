import Derived.Test.YtkhlfdcjgooogaaGreatTrJ
import Derived.Maps.OwnSet
import Derived.WalkArith
import Derived.Test.YtkhlfdcjgooogaaGreatWMore
import Derived.Test.YtkhlfdcjgooogaaGreatPf103
set_option maxRecDepth 100000
set_option maxHeartbeats 16000000
set_option linter.unusedVariables false
set_option linter.unusedSimpArgs false
set_option linter.unusedSectionVars false
namespace Go.Proofs.YtkhlfdcjgooogaaGreat.P
open Go.RowKit Go.Proofs.YtkhlfdcjgooogaaGreatW.PrintWords Go.Proofs.YtkhlfdcjgooogaaGreatW.PrintLast Go.Proofs.YtkhlfdcjgooogaaGreatW.PrintMore
theorem zAg {w : World} {a : Addr} {v : Value} (h : w.cell? a = some v) : w.drew.cell? a = some v:=h
def Stq (p : Prop) : Prop:=p
theorem Stq.out {p : Prop} (h : Stq p) : p:=h
theorem keyS : Go.Maps.Keyed Tryz.prog 9:=Go.Maps.string_keyed Tryz.underlying9
theorem keyI : Go.Maps.Keyed Tryz.prog 3:=Go.Maps.int_keyed Tryz.underlying3
theorem zero3 (w : World) : (zeroValue 3).run Tryz.prog w = .ok (.int .i64 0) w:=by kernel_rfl
theorem zeroM (w : World) : (zeroValue 118).run Tryz.prog w = .ok (.map none) w:=by kernel_rfl
abbrev Nm:=List UInt8
def upd {α β : Type} [DecidableEq α] (f : α → Option β) (s : α) (v : β) : α → Option β:=fun x => if x = s then some v else f x
def SMap (w : World) (b n : Nat) (f : Nm → Option Int) : Prop :=
 ∃ D : DataW Unit,w.ownsMap Tryz.prog 9 (plainElem Tryz.prog 3) b n D ∧ ∀ s : Nm,Go.Maps.has D (.string s) = (f s).isSome ∧ D.atKey (.string s) (.lit (.int .i64 0)) = .lit (.int .i64 ((f s).getD 0))
theorem ownsMap_heap {w w' : World} {k : TypeId} {R : Value → Option (DataW Unit × List MemPlace)} {b n : Nat} {D : DataW Unit} (h : w.ownsMap Tryz.prog k R b n D) (e : w'.heap[b]? = w.heap[b]?) : w'.ownsMap Tryz.prog k R b n D:=by
 obtain ⟨es,c,hb,r⟩:=h
 exact ⟨es,c,e.trans hb,r⟩
theorem SMap.made (w : World) : SMap (w.alloc (.map #[] 0)) w.heap.size 0 (fun _ => none) :=
 ⟨.map [],World.ownsMap_made w _ _ _,fun s => ⟨rfl,rfl⟩⟩
theorem SMap.of_heap {w w' : World} {b n : Nat} {f : Nm → Option Int} (h : SMap w b n f) (e : w'.heap[b]? = w.heap[b]?) : SMap w' b n f:=by
 obtain ⟨D,hD,r⟩:=h
 exact ⟨D,ownsMap_heap hD e,r⟩
theorem SMap.lt {w : World} {b n : Nat} {f : Nm → Option Int} (h : SMap w b n f) : b < w.heap.size:=by
 obtain ⟨D,hD,r⟩:=h
 exact hD.lt
theorem SMap.mono {w : World} {b n m : Nat} {f : Nm → Option Int} (h : SMap w b n f) (hn : n ≤ m) : SMap w b m f:=by
 obtain ⟨D,hD,r⟩:=h
 exact ⟨D,hD.mono hn,r⟩
theorem SMap.kept {w w' : World} {b n : Nat} {row : Option Nat} {f : Nm → Option Int} (h : SMap w b n f) (hg : w.grownBy w' row) (hne : some b ≠ row) : SMap w' b n f :=
 h.of_heap (hg.block b h.lt hne)
theorem SMap.look2 {w : World} {b n : Nat} {f : Nm → Option Int} (h : SMap w b n f) (s : ByteArray) (hs : s.size ≤ 140737488351232) :
  (Instr.lookup 118 (.map (some b)) (.string s) true).run Tryz.prog w = .ok (.tuple #[.int .i64 ((f s.data.toList).getD 0),.bool (f s.data.toList).isSome]) w:=by
 obtain ⟨D,hD,r⟩:=h
 obtain ⟨v,ps,hrun,hv⟩:=hD.look_ok keyS Tryz.underlying118 (zero3 w) (plainElem_int Tryz.underlying3 (by decide)) (Go.WideMaps.keyOf_string_mk Tryz.underlying9 (s:=s) (by unfold maxLen; omega))
 obtain ⟨c,rfl,hc,_⟩:=plainElem_int_inv Tryz.underlying3 hv
 have h1:=(r s.data.toList).2
 simp only [Prod.mk.injEq] at hc
 rw [h1] at hc
 have hc':=hc.1
 simp only [DataW.lit.injEq,Lit.int.injEq,true_and] at hc'
 rw [hrun,(r s.data.toList).1,hc']
theorem SMap.look1 {w : World} {b n : Nat} {f : Nm → Option Int} (h : SMap w b n f) (s : ByteArray) (hs : s.size ≤ 140737488351232) :
  (Instr.lookup 118 (.map (some b)) (.string s) false).run Tryz.prog w = .ok (.int .i64 ((f s.data.toList).getD 0)) w:=by
 obtain ⟨D,hD,r⟩:=h
 obtain ⟨c,hrun,hc,_⟩:=hD.lookup_int keyS Tryz.underlying118 Tryz.underlying3 (zero3 w) (Go.WideMaps.keyOf_string_mk Tryz.underlying9 (s:=s) (by unfold maxLen; omega))
 rw [(r s.data.toList).2] at hc
 simp only [DataW.lit.injEq,Lit.int.injEq,true_and] at hc
 rw [hrun,hc]
theorem keyLit_s (s : Nm) : WideAt.IsKeyLit (.string s):=trivial
theorem SMap.put {w : World} {b n : Nat} {f : Nm → Option Int} (h : SMap w b n f) (hn : n ≤ 100000) (s : ByteArray) (hs : s.size ≤ 140737488351232) (v : Int) (hv : (Lit.int .i64 v).wf = true) :
  ∃ w',(Instr.mapUpdate 118 (.map (some b)) (.string s) (.int .i64 v)).run Tryz.prog w = .ok () w' ∧ SMap w' b (n + 1) (upd f s.data.toList v) ∧ w.grownBy w' (some b):=by
 obtain ⟨D,hD,r⟩:=h
 obtain ⟨w',hrun,hD',hg⟩:=hD.update keyS Tryz.underlying118 (by unfold maxLen; omega) (Go.WideMaps.keyOf_string_mk Tryz.underlying9 (s:=s) (by unfold maxLen; omega)) (plainElem_int Tryz.underlying3 hv)
 refine ⟨w',hrun,⟨_,hD',fun x => ?_⟩,hg⟩
 unfold upd
 by_cases hx : x = s.data.toList
 ·subst hx
  rw [if_pos rfl,Go.Maps.has_put_same hD.isMap (keyLit_s _),Go.Maps.atKey_put_same hD.isMap (keyLit_s _)]
  exact ⟨rfl,rfl⟩
 ·rw [if_neg hx,Go.Maps.has_put_other (by simpa using hx),Go.Maps.atKey_put_other (by simpa using hx)]
  exact r x
def mapElem : Value → Option (DataW Unit × List MemPlace)
 | .map none => some (.nil,[])
 | .map (some b) => some (.lit (.int .i64 b),[])
 | _ => none
def mapD : Option Nat → DataW Unit
 | none => .nil
 | some b => .lit (.int .i64 b)
theorem mapElem_mk (o : Option Nat) : mapElem (.map o) = some (mapD o,[]):=by cases o <;> rfl
theorem mapElem_inv {v : Value} {o : Option Nat} {ps : List MemPlace} (h : mapElem v = some (mapD o,ps)) : v = .map o:=by
 cases v <;> try (cases h; done)
 rename_i p
 cases p <;> cases o <;> simp [mapElem,mapD] at h
 ·rfl
 ·obtain ⟨h1,_⟩:=h
  congr 2
  omega
def LMap (w : World) (b n : Nat) (f : Int → Option Nat) : Prop :=
 ∃ D : DataW Unit,w.ownsMap Tryz.prog 3 mapElem b n D ∧ ∀ s : Int,D.atKey (.int .i64 s) .nil = mapD (f s)
theorem LMap.made (w : World) : LMap (w.alloc (.map #[] 0)) w.heap.size 0 (fun _ => none) :=
 ⟨.map [],World.ownsMap_made w _ _ _,fun s => rfl⟩
theorem LMap.of_heap {w w' : World} {b n : Nat} {f : Int → Option Nat} (h : LMap w b n f) (e : w'.heap[b]? = w.heap[b]?) : LMap w' b n f:=by
 obtain ⟨D,hD,r⟩:=h
 exact ⟨D,ownsMap_heap hD e,r⟩
theorem LMap.lt {w : World} {b n : Nat} {f : Int → Option Nat} (h : LMap w b n f) : b < w.heap.size:=by
 obtain ⟨D,hD,r⟩:=h
 exact hD.lt
theorem LMap.kept {w w' : World} {b n : Nat} {row : Option Nat} {f : Int → Option Nat} (h : LMap w b n f) (hg : w.grownBy w' row) (hne : some b ≠ row) : LMap w' b n f :=
 h.of_heap (hg.block b h.lt hne)
theorem LMap.look {w : World} {b n : Nat} {f : Int → Option Nat} (h : LMap w b n f) (o : Int) (ho : (Lit.int .i64 o).wf = true) :
  (Instr.lookup 119 (.map (some b)) (.int .i64 o) false).run Tryz.prog w = .ok (.map (f o)) w:=by
 obtain ⟨D,hD,r⟩:=h
 obtain ⟨v,ps,hrun,hv⟩:=hD.lookup keyI Tryz.underlying119 (zeroM w) (mapElem_mk none) (Go.Maps.keyOf_int_mk Tryz.underlying3 ho)
 rw [show mapD none = .nil from rfl,r o] at hv
 rw [hrun,mapElem_inv hv]
theorem keyLit_i (a : Int) : WideAt.IsKeyLit (.int .i64 a):=trivial
theorem LMap.put {w : World} {b n : Nat} {f : Int → Option Nat} (h : LMap w b n f) (hn : n ≤ 100000) (o : Int) (ho : (Lit.int .i64 o).wf = true) (v : Nat) :
  ∃ w',(Instr.mapUpdate 119 (.map (some b)) (.int .i64 o) (.map (some v))).run Tryz.prog w = .ok () w' ∧ LMap w' b (n + 1) (upd f o v) ∧ w.grownBy w' (some b):=by
 obtain ⟨D,hD,r⟩:=h
 obtain ⟨w',hrun,hD',hg⟩:=hD.update keyI Tryz.underlying119 (by unfold maxLen; omega) (Go.Maps.keyOf_int_mk Tryz.underlying3 ho) (mapElem_mk (some v))
 refine ⟨w',hrun,⟨_,hD',fun x => ?_⟩,hg⟩
 unfold upd
 by_cases hx : x = o
 ·subst hx
  rw [if_pos rfl,Go.Maps.atKey_put_same hD.isMap (keyLit_i _)]
 ·rw [if_neg hx,Go.Maps.atKey_put_other (by simpa using hx)]
  exact r x
section
variable {ops : Array Oper} {rest : List Oper} {o : Oper} {a : Act} {Q : Exit → Act → World → Prop}
theorem wp_putL {w : World} (hg : o.guard = none) (m x v : Operand) (hop : o.op = Op.mapUpdate 119 m x v) {b n : Nat} {f : Int → Option Nat} (hm : a.eval m = .map (some b)) (h : LMap w b n f) (hn : n ≤ 100000)
  (s : Int) (hx : a.eval x = .int .i64 s) (hs : (Lit.int .i64 s).wf = true) (k : Nat) (hv : a.eval v = .map (some k))
  (hK : ∀ w',LMap w' b (n + 1) (upd f s k) → w.grownBy w' (some b) → wpList Tryz.prog ops Q rest (a.put o.dst undef) w') : wpList Tryz.prog ops Q (o :: rest) a w:=by
 refine wpList_plain hg fun K' hK' => ?_
 obtain ⟨w',hrun,r1,r2⟩:=h.put hn s hs k
 unfold Oper.wp
 simp [execOp,hop,hm,hx,hv,hrun,Result.andThen]
 exact hK' _ _ (hK w' r1 r2)
end
def nmOf (ns : List S66) (i : Int) : Nm:=(rd_T66 ns i).f3.data.toList
def kdOf (ns : List S66) (i : Int) : Int:=(rd_T66 ns i).f0
def nOf (ns : List S66) (i : Int) : Int:=(rd_T66 ns i).f1
def fstI (p : Nat → Bool) : Nat → Option Int
 | 0 => none
 | n + 1 => match fstI p n with
  | some d => some d
  | none => if p n = true then some (n : Int) else none
theorem zBq (p : Nat → Bool) : ∀ (n : Nat) (d : Int),fstI p n = some d → 0 ≤ d ∧ d < n ∧ p d.toNat = true
 | 0,d,h => by cases h
 | n + 1,d,h => by
  rw [fstI] at h
  cases e : fstI p n with
  | some d' =>
   rw [e] at h
   cases h
   have:=zBq p n d e
   exact ⟨this.1,by omega,this.2.2⟩
  | none =>
   rw [e] at h
   by_cases hp : p n = true
   ·simp only [hp,if_true] at h
    cases h
    exact ⟨by omega,by omega,hp⟩
   ·simp [hp] at h
def glF (ns : List S66) (n : Nat) (s : Nm) : Option Int:=fstI (fun j => decide (kdOf ns j = 2) && decide (nmOf ns j = s)) n
def prF (ns : List S66) (n : Nat) (s : Nm) : Option Int:=fstI (fun j => decide (kdOf ns j = 3) && decide (nmOf ns j = s)) n
def loF (ns : List S66) (ol : List Int) (o : Int) (n : Nat) (s : Nm) : Option Int:=fstI (fun j => (decide (kdOf ns j = 4) || decide (kdOf ns j = 5)) && (decide (rd ol j = o) && decide (nmOf ns j = s))) n
def intCells (l : List Int) : Array Value:=(l.map (Value.int .i64)).toArray
theorem zAO (l : List Int) (i : Int) (h0 : 0 ≤ i) (h1 : i < l.length) : (intCells l)[i.toNat]? = some (.int .i64 (rd l i)):=by
 have : i.toNat < l.length:=by omega
 simp [intCells,rd,this]
theorem zBv (l : List Int) (i : Int) (v : Int) : (intCells l).setIfInBounds i.toNat (.int .i64 v) = intCells (l.set i.toNat v):=by
 simp [intCells,List.map_set]
def OwnOk (ns : List S66) (ol : List Int) : Prop:=ol.length = ns.length ∧ ∀ i : Int,0 ≤ i → i < ns.length → rd ol i = -1 ∨ (0 ≤ rd ol i ∧ rd ol i < ns.length ∧ kdOf ns (rd ol i) = 3)
structure ScB (p bo g r l : Nat) (Lb : Int → Option Nat) (At : Option Addr) (ct : Nat) (ns : List S66) (root : Int) (ol : List Int) (w : World) : Prop where
 hp : w.heap[p]? = some (.cells #[.slice At ns.length ct,.int .i64 root,.slice (some ⟨bo,0,none⟩) ns.length ns.length,.map (some g),.map (some r),.map (some l)] 121 (0,0))
 hO : w.heap[bo]? = some (.cells (intCells ol) 3 (0,0))
 hown : OwnOk ns ol
 hG : SMap w g ns.length (glF ns ns.length)
 hR : SMap w r ns.length (prF ns ns.length)
 hL : LMap w l ns.length Lb
 hLs : ∀ o b,Lb o = some b → SMap w b ns.length (loF ns ol o ns.length)
 hLd : ∀ o : Int,0 ≤ o → o < ns.length → kdOf ns o = 3 → (Lb o).isSome = true
 hC : Kd.C k66 w At ns.length ns
 hct : ns.length ≤ ct
 hn : ns.length ≤ 4000
 hs : ∀ x ∈ ns,x.f3.size ≤ 140737488351232
def Sc (p : Nat) (At : Option Addr) (ct : Nat) (ns : List S66) (root : Int) (ol : List Int) (w : World) : Prop:=∃ bo g r l Lb,ScB p bo g r l Lb At ct ns root ol w
theorem Sc.below {p : Nat} {At : Option Addr} {ct : Nat} {ns : List S66} {root : Int} {ol : List Int} {w w' : World} (h : Sc p At ct ns root ol w) (hb : Below w.heap.size w w') : Sc p At ct ns root ol w':=by
 obtain ⟨bo,g,r,l,Lb,h⟩:=h
 exact ⟨bo,g,r,l,Lb,zAe h.hp hb,zAe h.hO hb,h.hown,h.hG.of_heap (hb.block _ h.hG.lt),h.hR.of_heap (hb.block _ h.hR.lt),h.hL.of_heap (hb.block _ h.hL.lt),fun o b e => (h.hLs o b e).of_heap (hb.block _ (h.hLs o b e).lt),h.hLd,Kd.C_below h.hC hb,h.hct,h.hn,h.hs⟩
theorem zAA (ns : List S66) (i : Int) (h0 : 0 ≤ i) (h1 : i < ns.length) : rd_T66 ns i ∈ ns:=by
 obtain ⟨j,rfl⟩:=Int.eq_ofNat_of_zero_le h0
 rw [rd24_at ns j (by omega)]
 exact List.getElem_mem _
def meansF (ns : List S66) (ol : List Int) (place : Int) (s : Nm) : Int :=
 if rd ol place = -1 then -1 else match loF ns ol (rd ol place) ns.length s with
  | some d => d
  | none => match glF ns ns.length s with
   | some d => d
   | none => -1
def procF (ns : List S66) (s : Nm) : Int:=match prF ns ns.length s with
 | some d => d
 | none => -1
theorem zBc (ns : List S66) (ol : List Int) (place : Int) (s : Nm) : meansF ns ol place s = -1 ∨ (0 ≤ meansF ns ol place s ∧ meansF ns ol place s < ns.length):=by
 unfold meansF
 split
 ·exact .inl rfl
 ·cases e : loF ns ol (rd ol place) ns.length s with
  | some d => have:=zBq _ _ _ e; exact .inr ⟨this.1,this.2.1⟩
  | none =>
   cases e : glF ns ns.length s with
   | some d => have:=zBq _ _ _ e; exact .inr ⟨this.1,this.2.1⟩
   | none => exact .inl rfl
theorem zBd (ns : List S66) (s : Nm) : procF ns s = -1 ∨ (0 ≤ procF ns s ∧ procF ns s < ns.length):=by
 unfold procF
 cases e : prF ns ns.length s with
 | some d => have:=zBq _ _ _ e; exact .inr ⟨this.1,this.2.1⟩
 | none => exact .inl rfl
def kindF (ns : List S66) (ol : List Int) (place : Int) (s : Nm) : Int:=if meansF ns ol place s = -1 then 0 else nOf ns (meansF ns ol place s)
theorem wf64 {v : Int} (h : -1000000 ≤ v) (h1 : v ≤ 1000000) : (Lit.int .i64 v).wf = true:=WalkArith.wf_i64 (by omega)
theorem proc_is (p : Nat) (At : Option Addr) (ct : Nat) (ns : List S66) (root : Int) (ol : List Int) (s : ByteArray) (hs : s.size ≤ 140737488351232) (w : World) (hS : Sc p At ct ns root ol w) :
  Calls Tryz.prog 35 #[.pointer (some ⟨p,0,none⟩),.string s] w fun e w' => e = .returned (.int .i64 (procF ns s.data.toList)) ∧ Below w.heap.size w w':=by
 obtain ⟨bo,g,r,l,Lb,h⟩:=hS
 have c3:=bc_ h.hp 4
 have lk:=h.hR.look2 s hs
 unfold procF
 clear h
 obtain ⟨x,hx⟩ : ∃ x,x = prF ns ns.length s.data.toList:=⟨_,rfl⟩
 rw [← hx] at lk ⊢
 clear hx
 cases x with
 | none =>
  go_enter Tryz.func35,Tryz.ntmps35
  go_wp2_with fail
  go_ret
  exact ⟨rfl,Below.refl _ _⟩
 | some d =>
  go_enter Tryz.func35,Tryz.ntmps35
  go_wp2_with fail
  go_ret
  exact ⟨rfl,Below.refl _ _⟩
theorem zCW (p : Nat) (At : Option Addr) (ct : Nat) (ns : List S66) (root : Int) (ol : List Int) (place : Int) (h0 : 0 ≤ place) (h1 : place < ns.length) (s : ByteArray) (hs : s.size ≤ 140737488351232) (w : World) (hS : Sc p At ct ns root ol w) :
  Calls Tryz.prog 104 #[.pointer (some ⟨p,0,none⟩),.int .i64 place,.string s] w fun e w' => e = .returned (.int .i64 (meansF ns ol place s.data.toList)) ∧ Below w.heap.size w w':=by
 obtain ⟨bo,g,r,l,Lb,h⟩:=hS
 have c1:=bc_ h.hp 2
 have c2:=bc_ h.hp 3
 have c4:=bc_ h.hp 5
 have co : w.cell? ⟨bo,place.toNat,none⟩ = some (.int .i64 (rd ol place)):=(zAh h.hO _).trans (zAO ol place h0 (by have:=h.hown.1; omega))
 have lk:=h.hG.look2 s hs
 have hn:=h.hn
 have how:=h.hown.2 place h0 h1
 have h0e:=eq_true h0
 have h1e:=eq_true h1
 unfold meansF
 obtain ⟨o,ho⟩ : ∃ o,o = rd ol place:=⟨_,rfl⟩
 rw [← ho] at co how ⊢
 by_cases hm : o = -1
 ·subst hm
  clear ho h
  rw [if_pos rfl]
  go_enter Tryz.func104,Tryz.ntmps104
  go_wp2_with fail
  go_ret
  exact ⟨rfl,Below.refl _ _⟩
 ·rw [if_neg hm]
  have how' : 0 ≤ o ∧ o < ns.length ∧ kdOf ns o = 3:=how.resolve_left hm
  have lk4:=h.hL.look o (wf64 (by omega) (by omega))
  obtain ⟨b,hb⟩:=Option.isSome_iff_exists.1 (h.hLd o how'.1 how'.2.1 how'.2.2)
  have lk5:=(h.hLs o b hb).look2 s hs
  rw [hb] at lk4
  obtain ⟨x,hx⟩ : ∃ x,x = loF ns ol o ns.length s.data.toList:=⟨_,rfl⟩
  rw [← hx] at lk5 ⊢
  obtain ⟨y,hy⟩ : ∃ y,y = glF ns ns.length s.data.toList:=⟨_,rfl⟩
  rw [← hy] at lk ⊢
  clear hx hy ho h how how' hb
  cases x with
  | some d =>
   go_enter Tryz.func104,Tryz.ntmps104
   go_wp2_with fail
   go_ret
   exact ⟨rfl,Below.refl _ _⟩
  | none =>
   cases y with
   | some d =>
    go_enter Tryz.func104,Tryz.ntmps104
    go_wp2_with fail
    go_ret
    exact ⟨rfl,Below.refl _ _⟩
   | none =>
    go_enter Tryz.func104,Tryz.ntmps104
    go_wp2_with fail
    go_ret
    exact ⟨rfl,Below.refl _ _⟩
theorem kind_is (p : Nat) (At : Option Addr) (ct : Nat) (ns : List S66) (root : Int) (ol : List Int) (place : Int) (h0 : 0 ≤ place) (h1 : place < ns.length) (s : ByteArray) (hs : s.size ≤ 140737488351232) (w : World) (hS : Sc p At ct ns root ol w) :
  Calls Tryz.prog 105 #[.pointer (some ⟨p,0,none⟩),.int .i64 place,.string s] w fun e w' => e = .returned (.int .i64 (kindF ns ol place s.data.toList)) ∧ Below w.heap.size w w':=by
 have HM:=Lib.hid (zCW p At ct ns root ol place h0 h1 s hs w hS)
 have HS:=Lib.hid hS
 clear hS
 have hr:=zBc ns ol place s.data.toList
 unfold kindF
 obtain ⟨d,hd⟩ : ∃ d,d = meansF ns ol place s.data.toList:=⟨_,rfl⟩
 rw [← hd] at HM hr ⊢
 clear hd
 obtain ⟨R,hR⟩ : ∃ R,R = if d = -1 then 0 else nOf ns d:=⟨_,rfl⟩
 rw [← hR]
 go_enter Tryz.func105,Tryz.ntmps105
 go_wp2_with fail
 refine HM.out.mono ?_
 rintro e_ w1 ⟨rfl,hb_⟩
 have HB1:=Lib.hid hb_
 clear hb_
 by_cases hm : d = -1
 ·subst hm
  rw [if_pos rfl] at hR
  subst hR
  go_wp2_with fail
  go_ret
  exact ⟨rfl,HB1.out⟩
 ·rw [if_neg hm] at hR
  have hr':=hr.resolve_left hm
  obtain ⟨bo,g,r,l,Lb,h⟩:=HS.out.below HB1.out
  have c0:=bc_ h.hp 0
  obtain ⟨ad,A4,c4,eA,z0,z1,z2,z3,z4,l4,g4⟩:=at_T66 h.hC d hr'.1 hr'.2
  have e0:=eq_true hr'.1
  have e1:=eq_true hr'.2
  have hR' : R = (rd_T66 ns d).f1:=hR
  rw [← hR'] at z1
  cases eA
  clear h hr hr' hR hR'
  go_wp2_with fail
  go_ret
  exact ⟨rfl,HB1.out⟩
attribute [local go_sem] zAP zAQ max_two min_two zAK zAJ zAS zAR
def zAn.l0 : Nat → List Int → List Int → Int → Int → Option (Bool)
 | 0,_,_,_,_ => none
 | k + 1,x0,x1,x12,x13 => if x13 < x12 then (if 0 ≤ x13 then (if x13 < (x0.length : Int) then (if x13 < (x1.length : Int) then (if (rd x0 x13) = (rd x1 x13) then (zAn.l0 k x0 x1 x12 (wrap64 (x13 + 1))) else (some false)) else (none)) else (none)) else (none)) else (some true)
def zAn.f (k : Nat) (l0 : List Int) (l1 : List Int) : Option (Bool):=if (l0.length : Int) = (l1.length : Int) then (zAn.l0 k l0 l1 (l0.length : Int) 0) else (some false)
theorem zAn.mono_l : ∀ k,(∀ y0 y1 y2 y3,LeO (zAn.l0 k y0 y1 y2 y3) (zAn.l0 (k + 1) y0 y1 y2 y3))
 | 0 => fun _ _ _ _ r h => by simp [zAn.l0] at h
 | k + 1 => by
  have ih0:=zAn.mono_l k
  ·intro y0 y1 y2 y3
   unfold zAn.l0
   repeat' first
   | (with_reducible exact ih0 _ _ _ _)
   | (with_reducible exact LeO.refl _)
   | (with_reducible exact LeO.none _)
   | (with_reducible refine LeO.ite ?_ ?_)
   | (with_reducible refine LeO.bind ?_ (fun _ => ?_))
   | exact ih0 _ _ _ _
   | exact LeO.none _
   | refine LeO.ite ?_ ?_
   | refine LeO.bind ?_ (fun _ => ?_)
theorem zAn.mono : ∀ a0 a1 k,LeO (zAn.f k a0 a1) (zAn.f (k + 1) a0 a1):=by
 intro a0 a1 k
 have ih0:=zAn.mono_l k
 unfold zAn.f
 repeat' first
   | (with_reducible exact ih0 _ _ _ _)
   | (with_reducible exact LeO.refl _)
   | (with_reducible exact LeO.none _)
   | (with_reducible refine LeO.ite ?_ ?_)
   | (with_reducible refine LeO.bind ?_ (fun _ => ?_))
   | exact ih0 _ _ _ _
   | exact LeO.none _
   | refine LeO.ite ?_ ?_
   | refine LeO.bind ?_ (fun _ => ?_)
theorem zAn.calls (k : Nat) (A0 : Option Addr) (c0 : Nat) (l0 : List Int) (A1 : Option Addr) (c1 : Nat) (l1 : List Int) (r : Bool) (w : World) (hr0 : Kd.C (Kd.int .i64) w A0 l0.length l0) (hc0 : l0.length ≤ c0) (hr1 : Kd.C (Kd.int .i64) w A1 l1.length l1) (hc1 : l1.length ≤ c1) (h : zAn.f k l0 l1 = some r) :
  Calls Tryz.prog 108 #[.slice A0 l0.length c0,.slice A1 l1.length c1] w fun e w' => e = .returned (.bool r) ∧ Drawn0 w w':=by
 have HR0:=Aside0.mk hr0
 have HC0:=Aside0.mk hc0
 clear hr0 hc0
 have HR1:=Aside0.mk hr1
 have HC1:=Aside0.mk hc1
 clear hr1 hc1
 have H : (if (l0.length : Int) = (l1.length : Int) then (zAn.l0 k l0 l1 (l0.length : Int) 0) else (some false)) = some r:=h
 clear h
 by_cases c3 : (l0.length : Int) = (l1.length : Int)
 ·rw [if_pos c3] at H
  have c3b0 : ((l0.length : Int) == (l1.length : Int)) = true:=beq_iff_eq.mpr c3
  have c3b1 : ((l0.length : Int) != (l1.length : Int)) = false:=bne_eq_false_iff_eq.mpr c3
  have c3b2 : (l0.length == l1.length) = true:=by first | simpa using c3 | (simp at c3 ⊢; omega)
  clear c3
  have H':=Aside0.mk H
  clear H
  go_enter Tryz.func108,Tryz.ntmps108
  go_wp2
  repeat (go_quiet (fail); try go_wp2)
  go_loopg [13] k (fun kq v13 w' => ∃ (x13_1 : Int),v13 = .int .i64 x13_1 ∧ Aside0 (zAn.l0 kq l0 l1 (l0.length : Int) x13_1 = some r) ∧ Aside0 (kq ≤ k) ∧ Drawn0 w w')
  case atStart => exact ⟨(0),(by first | rfl | (simp; done) | (simp [*]; done)),H',⟨Nat.le_refl _⟩,by repeat (first | exact Drawn0.refl _ | apply Drawn0.step)⟩
  case round =>
   clear H'
   try clear c1
   try clear p2
   try clear c3
   try clear c3b0
   try clear c3b1
   try clear c3b2
   obtain ⟨x13_1,rfl,HA,HK1,⟨m1,rfl⟩⟩:=hrel
   cases gk with
   | zero => exact absurd HA.out (by simp [zAn.l0])
   | succ k1 =>
    have H:=HA.out
    clear HA
    simp only [zAn.l0] at H
    by_cases c4 : x13_1 < (l0.length : Int)
    ·rw [if_pos c4] at H
     have c4b0 : decide (x13_1 < (l0.length : Int)) = true:=decide_eq_true c4
     clear c4
     by_cases c5 : 0 ≤ x13_1
     ·rw [if_pos c5] at H
      have c5b0 : decide (0 ≤ x13_1) = true:=decide_eq_true c5
      clear c5
      by_cases c6 : x13_1 < (l0.length : Int)
      ·rw [if_pos c6] at H
       have c6b0 : decide (x13_1 < (l0.length : Int)) = true:=decide_eq_true c6
       clear c6
       by_cases c7 : x13_1 < (l1.length : Int)
       ·rw [if_pos c7] at H
        have c7b0 : decide (x13_1 < (l1.length : Int)) = true:=decide_eq_true c7
        clear c7
        by_cases c8 : (rd l0 x13_1) = (rd l1 x13_1)
        ·rw [if_pos c8] at H
         have c8b0 : ((rd l0 x13_1) == (rd l1 x13_1)) = true:=beq_iff_eq.mpr c8
         have c8b1 : ((rd l0 x13_1) != (rd l1 x13_1)) = false:=bne_eq_false_iff_eq.mpr c8
         clear c8
         have H':=Aside0.mk H
         clear H
         have p198 : 0 ≤ (x13_1 : Int):=of_decide_eq_true (by first | (with_reducible assumption) | assumption)
         have q198 : x13_1 < (l0.length : Int):=of_decide_eq_true (by first | (with_reducible assumption) | assumption)
         obtain ⟨ad198,e198,hx198_0⟩:=Kd.at_int HR0.out x13_1 p198 q198
         cases e198
         replace p198:=eq_true p198
         replace q198:=eq_true q198
         have p199 : 0 ≤ (x13_1 : Int):=of_decide_eq_true (by first | (with_reducible assumption) | assumption)
         have q199 : x13_1 < (l1.length : Int):=of_decide_eq_true (by first | (with_reducible assumption) | assumption)
         obtain ⟨ad199,e199,hx199_0⟩:=Kd.at_int HR1.out x13_1 p199 q199
         cases e199
         replace p199:=eq_true p199
         replace q199:=eq_true q199
         go_wp2
         repeat (go_quiet (fail); try go_wp2)
         go_roundg k1
         case measure => have:=HK1.out; omega
         case rel => exact ⟨(wrap64 (x13_1 + 1)),(by first | rfl | (simp; done) | (simp [*]; done)),H',⟨by have:=HK1.out; omega⟩,by repeat (first | exact Drawn0.refl _ | apply Drawn0.step)⟩
        ·rw [if_neg c8] at H
         have c8b0 : ((rd l0 x13_1) == (rd l1 x13_1)) = false:=beq_eq_false_iff_ne.mpr c8
         have c8b1 : ((rd l0 x13_1) != (rd l1 x13_1)) = true:=bne_iff_ne.mpr c8
         obtain rfl:=Option.some.inj H
         have p198 : 0 ≤ (x13_1 : Int):=of_decide_eq_true (by first | (with_reducible assumption) | assumption)
         have q198 : x13_1 < (l0.length : Int):=of_decide_eq_true (by first | (with_reducible assumption) | assumption)
         obtain ⟨ad198,e198,hx198_0⟩:=Kd.at_int HR0.out x13_1 p198 q198
         cases e198
         replace p198:=eq_true p198
         replace q198:=eq_true q198
         have p199 : 0 ≤ (x13_1 : Int):=of_decide_eq_true (by first | (with_reducible assumption) | assumption)
         have q199 : x13_1 < (l1.length : Int):=of_decide_eq_true (by first | (with_reducible assumption) | assumption)
         obtain ⟨ad199,e199,hx199_0⟩:=Kd.at_int HR1.out x13_1 p199 q199
         cases e199
         replace p199:=eq_true p199
         replace q199:=eq_true q199
         go_wp2
         repeat (go_quiet (fail); try go_wp2)
         go_ret
         exact ⟨by first | rfl | (simp; done) | (simp [*]; done),by repeat (first | exact Drawn0.refl _ | apply Drawn0.step)⟩
       ·rw [if_neg c7] at H
        exact absurd H (by simp)
      ·rw [if_neg c6] at H
       exact absurd H (by simp)
     ·rw [if_neg c5] at H
      exact absurd H (by simp)
    ·rw [if_neg c4] at H
     have c4b0 : decide (x13_1 < (l0.length : Int)) = false:=decide_eq_false c4
     clear c4
     obtain rfl:=Option.some.inj H
     go_wp2
     repeat (go_quiet (fail); try go_wp2)
     go_ret
     exact ⟨by first | rfl | (simp; done) | (simp [*]; done),by repeat (first | exact Drawn0.refl _ | apply Drawn0.step)⟩
 ·rw [if_neg c3] at H
  have c3b0 : ((l0.length : Int) == (l1.length : Int)) = false:=beq_eq_false_iff_ne.mpr c3
  have c3b1 : ((l0.length : Int) != (l1.length : Int)) = true:=bne_iff_ne.mpr c3
  have c3b2 : (l0.length == l1.length) = false:=by first | simpa using c3 | (simp at c3 ⊢; omega)
  obtain rfl:=Option.some.inj H
  go_enter Tryz.func108,Tryz.ntmps108
  go_wp2
  repeat (go_quiet (fail); try go_wp2)
  go_ret
  exact ⟨by first | rfl | (simp; done) | (simp [*]; done),by repeat (first | exact Drawn0.refl _ | apply Drawn0.step)⟩
def parsL (ns : List S66) (ks : List Int) : List Int:=(ks.filter (fun k => decide (kdOf ns k = 4))).map (nOf ns)
def paramsF (ns : List S66) (p : Int) : List Int:=parsL ns (rd_T66 ns p).f4
theorem parsL_snoc (ns : List S66) (ks : List Int) (i : Nat) (h : i < ks.length) : parsL ns (ks.take (i + 1)) = if kdOf ns ks[i] = 4 then parsL ns (ks.take i) ++ [nOf ns ks[i]] else parsL ns (ks.take i):=by
 rw [List.take_succ_eq_append_getElem h,parsL,List.filter_append,List.map_append]
 by_cases hk : kdOf ns ks[i] = 4
 ·rw [if_pos hk,List.filter_cons_of_pos (by simpa using hk)]
  rfl
 ·rw [if_neg hk,List.filter_cons_of_neg (by simpa using hk)]
  simp [parsL]
def KidsIn (ns : List S66) : Prop:=∀ x ∈ ns,(∀ k ∈ x.f4,0 ≤ k ∧ k < ns.length) ∧ x.f4.length ≤ 4000
theorem told_is (b : Bool) (w : World) : Calls Tryz.prog 72 #[.bool b] w fun e w' => e = .returned (.int .i64 (if b = true then 0 else 5)) ∧ w' = w:=by
 cases b
 ·go_enter Tryz.func72,Tryz.ntmps72
  go_wp2_with fail
  go_ret
  exact ⟨rfl,rfl⟩
 ·go_enter Tryz.func72,Tryz.ntmps72
  go_wp2_with fail
  go_ret
  exact ⟨rfl,rfl⟩
theorem zCZ (p : Nat) (At : Option Addr) (ct : Nat) (ns : List S66) (root : Int) (ol : List Int) (q : Int) (h0 : 0 ≤ q) (h1 : q < ns.length) (hk : KidsIn ns) (w : World) (hS : Sc p At ct ns root ol w) :
  Calls Tryz.prog 36 #[.pointer (some ⟨p,0,none⟩),.int .i64 q] w fun e w' => ∃ v : Value,e = .returned v ∧ Kd.R (Kd.int .i64) 3 w' w.heap.size (fun _ => True) v (paramsF ns q) ∧ Below w.heap.size w w':=by
 have HS:=Lib.hid hS
 clear hS
 obtain ⟨bo,g,r,l,Lb,h⟩:=HS.out
 have c0:=bc_ h.hp 0
 obtain ⟨ad,A4,c4,eA,z0,z1,z2,z3,z4,l4,g4⟩:=at_T66 h.hC q h0 h1
 have e0:=eq_true h0
 have e1:=eq_true h1
 have hkq:=hk (rd_T66 ns q) (zAA ns q h0 h1)
 obtain ⟨kl,hkl⟩ : ∃ kl,kl = (rd_T66 ns q).f4:=⟨_,rfl⟩
 have hpar : paramsF ns q = parsL ns kl:=by rw [hkl]; rfl
 rw [← hkl] at z4 l4 g4 hkq
 rw [hpar]
 clear hkl hpar z0 z1 z2 z3
 have HK:=Lib.hid hkq
 have hkl1:=hkq.2
 have HG4:=Lib.hid g4
 have hn4:=h.hn
 cases eA
 clear h hkq hk g4
 go_enter Tryz.func36,Tryz.ntmps36
 go_wp2_with fail
 clear z4 c0 e0 e1
 go_loopg [5,19] (kl.length + 1) (fun kq v5 v19 W => ∃ i : Nat,v19 = .int .i64 i ∧ i ≤ kl.length ∧ Hid (i + kq = kl.length + 1) ∧ Hid (Kd.R (Kd.int .i64) 3 W w.heap.size (fun _ => True) v5 (parsL ns (kl.take i))) ∧ Hid (Below w.heap.size w W))
 case atStart => exact ⟨0,rfl,Nat.zero_le _,Lib.hid (by omega),Lib.hid (Kd.R_nil _ _ _ _ _),Lib.hid (Below.refl _ _)⟩
 case round =>
  obtain ⟨i,rfl,hi,HN,HR,HB⟩:=hrel
  by_cases hlt : i < kl.length
  ·obtain ⟨adK,eK,y0⟩:=Kd.at_int (Kd.C_below HG4.out HB.out) (i : Int) (by omega) (by omega)
   have hq : rd kl (i : Int) = kl[i]:=by simp [rd,hlt]
   rw [hq,Int.toNat_natCast] at y0
   have hin:=HK.out.1 kl[i] (List.getElem_mem hlt)
   have hst:=parsL_snoc ns kl i hlt
   obtain ⟨kv,hkv⟩ : ∃ kv,kv = kl[i]:=⟨_,rfl⟩
   rw [← hkv] at y0 hin hst
   clear hq hkv
   obtain ⟨bo',g',r',l',Lb',h⟩:=HS.out.below HB.out
   have c0:=bc_ h.hp 0
   obtain ⟨ad',A5,c5,eA,x0,x1,x2,x3,x4,l5,g5⟩:=at_T66 h.hC kv hin.1 hin.2
   have hk0 : kdOf ns kv = (rd_T66 ns kv).f0:=rfl
   have hn0 : nOf ns kv = (rd_T66 ns kv).f1:=rfl
   have e0:=eq_true hin.1
   have e1:=eq_true hin.2
   cases eA
   cases eK
   have hl5 : (parsL ns (kl.take i)).length ≤ 4000:=by
    have h1:=HK.out.2
    have h2 : (parsL ns (kl.take i)).length ≤ (kl.take i).length:=by unfold parsL; rw [List.length_map]; exact List.length_filter_le _ _
    rw [List.length_take] at h2
    omega
   obtain ⟨x,hx⟩ : ∃ x,x = rd_T66 ns kv:=⟨_,rfl⟩
   rw [← hx] at x0 x1 x2 x3 x4 l5 g5 hk0 hn0
   obtain ⟨k,n,at_,tx,kl2⟩:=x
   dsimp only at x0 x1 x2 x3 x4 l5 g5 hk0 hn0
   obtain ⟨pl,hpl⟩ : ∃ pl,pl = parsL ns (kl.take i):=⟨_,rfl⟩
   rw [← hpl] at HR hst hl5
   rw [hk0,hn0] at hst
   clear h hx hpl hin hk0 hn0 g5
   have HST:=Lib.hid hst
   have HL5:=Lib.hid hl5
   clear hst hl5
   by_cases hk4 : k = 4
   ·subst hk4
    go_wp2_with (((with_reducible refine gate_builtin (b:=.append) (xs:=#[.tmp 34,.tmp 37]) rfl ?_); at_builtin; refine Stq.out ?_))
    unfold Stq
    refine Kd.R_append (Kd.int .i64) (w0:=w) w.heap.size rfl (.tmp 34) (.tmp 37) 64 3 (.int .i64 0) 8 rfl Tryz.underlying64 info3 rfl (by decide) (by omega) u5 pl n [.int .i64 n] (fun _ => True) (fun _ => False) rfl (by simp [Act.eval]) rfl (fun _ hk => hk.elim) (fun _ _ => trivial) (Kd.R_alloc HR.out _) (zAa HB.out _) (by have:=HB.out.size; simp; omega) (by have:=HL5.out; omega) ?_
    intro v9 w9 ho_ hb_ hg_ hat_
    have HO:=Lib.hid ho_
    have HB9:=Lib.hid hb_
    clear ho_ hb_ hg_ hat_ x0 x1 x2 x3 x4 c0 y0
    go_wp2_with fail
    go_roundg (gk - 1)
    case measure => have:=HN.out; omega
    case rel => exact ⟨i + 1,by norm_cast,hlt,Lib.hid (by have:=HN.out; omega),Lib.hid (by rw [HST.out,if_pos trivial]; exact HO.out),HB9⟩
   ·have hst:=HST.out
    rw [if_neg hk4] at hst
    have HST':=Lib.hid hst
    clear hst HST
    go_wp2_with fail
    go_roundg (gk - 1)
    case measure => have:=HN.out; omega
    case rel => exact ⟨i + 1,by norm_cast,hlt,Lib.hid (by have:=HN.out; omega),Lib.hid (by rw [HST'.out]; exact Kd.R_alloc HR.out _),Lib.hid (zAa HB.out _)⟩
  ·obtain rfl : i = kl.length:=by omega
   rw [List.take_length] at HR
   go_wp2_with fail
   go_ret
   exact ⟨u5,rfl,HR.out,HB.out⟩
end Go.Proofs.YtkhlfdcjgooogaaGreat.P
