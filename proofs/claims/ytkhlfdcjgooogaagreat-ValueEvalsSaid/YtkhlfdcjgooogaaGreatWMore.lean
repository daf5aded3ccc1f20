import Derived.Test.YtkhlfdcjgooogaaGreatWLast
import Derived.Test.YtkhlfdcjgooogaaGreatWWords
set_option maxRecDepth 100000
set_option maxHeartbeats 16000000
set_option linter.unusedVariables false
set_option linter.unusedSimpArgs false
set_option linter.unusedSectionVars false
namespace Go.Proofs.YtkhlfdcjgooogaaGreatW.PrintLast
open Go.Proofs.YtkhlfdcjgooogaaGreatW.PrintWords
section
variable {P : Program} {ops : Array Oper} {Q : Exit → Act → World → Prop} {md : Region.Mode} {S : World → Prop} {ds : List Nat}
variable {l l' : Array Bool} {oi : Oper} {v : Value} {fuel : Nat} {a a' : Act} {w : World}
theorem pu_ (i : Nat) (N : Tmp) (h : wpAnyLast P md ops Q S ds fuel l' a' w) (hi : ops[i]? = some oi:=by exact rfl)
  (hl : l.setIfInBounds i true = l':=by simp only [List.setIfInBounds_toArray,List.set_cons_zero,List.set_cons_succ]; rfl) (hN : oi.dst = some N:=by exact rfl) (hc : anyB md ops l l' i = true:=by kernel_rfl)
  (hQ : ∀ c a w,Q (.panic c) (a.put oi.dst v) w → Q (.panic c) a w:=by exact fun _ _ _ h => h)
  (hy : Yields P ops oi v a:=by exact Or.inl ⟨by rfl,by intro w'; go_simp; with_reducible rfl⟩)
  (ha : a.put (some N) v = a':=by simp only [Act.put,List.setIfInBounds_toArray,List.set_cons_zero,List.set_cons_succ,i64_w,i32_w]; rfl) : wpAnyLast P md ops Q S ds (fuel + 1) l a w :=
 pure_ l' hi hN hc hQ hy ha h
theorem pn_ (i : Nat) (N : Tmp) (h : wpAnyLast P md ops Q S ds fuel l' a' w) (hi : ops[i]? = some oi:=by exact rfl)
  (hl : l.setIfInBounds i true = l':=by simp only [List.setIfInBounds_toArray,List.set_cons_zero,List.set_cons_succ]; rfl) (hN : oi.dst = some N:=by exact rfl) (hc : anyB md ops l l' i = true:=by kernel_rfl)
  (hQ : ∀ c a w,Q (.panic c) (a.put oi.dst undef) w → Q (.panic c) a w:=by exact fun _ _ _ h => h)
  (hy : Yields P ops oi undef a:=by exact Or.inr ⟨by rfl,rfl⟩)
  (ha : a.put (some N) undef = a':=by simp only [Act.put,List.setIfInBounds_toArray,List.set_cons_zero,List.set_cons_succ,i64_w,i32_w]; rfl) : wpAnyLast P md ops Q S ds (fuel + 1) l a w :=
 pure_ l' hi hN hc hQ hy ha h
theorem ta_ (i : Nat) (N : Tmp) (hS : S w) (h : wpAnyLast P md ops Q S ds fuel l' a' w) (hi : ops[i]? = some oi:=by exact rfl)
  (hl : l.setIfInBounds i true = l':=by simp only [List.setIfInBounds_toArray,List.set_cons_zero,List.set_cons_succ]; rfl) (hN : oi.dst = some N:=by exact rfl) (hc : takeB md ops ds l l' i = true:=by kernel_rfl)
  (hQ : ∀ c a w,Q (.panic c) (a.put oi.dst v) w → Q (.panic c) a w:=by exact fun _ _ _ h => h)
  (hy : YieldsIf P ops S oi v a:=by exact Or.inl ⟨by rfl,by intro w' hs; (repeat (obtain ⟨s_,hs⟩:=hs)); go_simp; with_reducible rfl⟩)
  (ha : a.put (some N) v = a':=by simp only [Act.put,List.setIfInBounds_toArray,List.set_cons_zero,List.set_cons_succ,i64_w,i32_w]; rfl) : wpAnyLast P md ops Q S ds (fuel + 1) l a w :=
 take_ l' hi hN hc hQ hy hS ha h
theorem on_ (i : Nat) (N : Option Tmp) (h : ∀ K : Act → World → Prop,Shut (∀ a' w',S w' → (S w' → wpAnyLast P md ops Q S ds fuel l' a' w') → K a' w') → if Region.wanted oi (yielded ops a.tmps) = true then Oper.wp P oi a w K Q else K (a.put N undef) w)
  (hi : ops[i]? = some oi:=by exact rfl) (hl : l.setIfInBounds i true = l':=by simp only [List.setIfInBounds_toArray,List.set_cons_zero,List.set_cons_succ]; rfl) (hN : oi.dst = N:=by exact rfl) (hc : readyB md ops l l' i = true:=by kernel_rfl) (hd : i ∉ ds:=by decide) : wpAnyLast P md ops Q S ds (fuel + 1) l a w :=
 one_ l' hi hN hc hd h
theorem no_ (h : wpAnyLast P md ops Q S ds fuel l a' w) (ha : a = a':=by (show Act.put _ _ _ = _); simp only [Act.put,List.setIfInBounds_toArray,List.set_cons_zero,List.set_cons_succ,i64_w,i32_w]; rfl) : wpAnyLast P md ops Q S ds fuel l a w:=norm_ ha h
theorem gs_ {N : Option Tmp} {K : Act → World → Prop} {f : FuncId} {fn : Func} {as : Array Operand} {ts : Array TypeId} (hf : P.funcs[f]? = some fn) (args : Array Value)
  (h : Calls P f args w fun e w' => ∃ v, e = .returned v ∧ K (a.put N v) w') (hname : (fn.name == "runtime.NumGoroutine") = false := by kernel_rfl) (hb : fn.body.isSome = true := by exact rfl)
  (hw : Region.wanted oi (yielded ops a.tmps) = true:=by rfl) (hN : oi.dst = N:=by exact rfl) (hop : oi.op = .call { callee:=.value (.func f),args:=as,argTypes:=ts }:=by exact rfl) (hargs : as.map a.eval = args:=by simp only [List.map_toArray,List.map_cons,List.map_nil]; rfl) :
  if Region.wanted oi (yielded ops a.tmps) = true then Oper.wp P oi a w K Q else K (a.put N undef) w:=goes_ hf hname hb args hw hN hop hargs h
end
theorem bc_ {w : World} {g : Nat} {t : TypeId} {cs : Array Value} {v : Value} (h : w.heap[g]? = some (.cells cs t (0,0))) (i : Nat) (hv : cs.toList[i]? = some v:=by exact rfl) : w.cell? ⟨g,i,none⟩ = some v:=(zAh h i).trans (by simpa using hv)
theorem hmf_ {P : Program} : ∀ (fn : Fn) (first cap : Array Value) (w : World),(Instr.makeFunc fn first cap).run P w = .ok (.func fn first cap) w:=fun _ _ _ _ => rfl
open Go.Proofs.YtkhlfdcjgooogaaGreatW.PrintWords (Aside0)
section
variable {md : Region.Mode} {ops : Array Oper} {T : Bool × List (List Nat × List Nat)} {l l' li lj lk : Array Bool} {ds : List Nat} {i j k : Nat}
theorem gd (l : Array Bool) (j : Nat) (b : Bool) : l.getD j b = l.toList.getD j b:=by simp [Array.getD_eq_getD_getElem?,List.getD_eq_getElem?_getD]
end
end Go.Proofs.YtkhlfdcjgooogaaGreatW.PrintLast
namespace Go.Proofs.YtkhlfdcjgooogaaGreatW.PrintWords
open Go.RowKit
namespace Kd
def tag {α : Type} (f : Nat → Nat) (d : Kd α) : Kd (α × Nat) where
 sz:=d.sz
 E:=d.E
 K:=fun w x cs => d.K w x.1 cs
 M:=fun w base ok x cs => d.M w base (fun k => ok k ∧ f k = x.2) x.1 cs
 K_len:=fun h => d.K_len h
 K_one:=fun h => d.K_one h
 K_below:=fun hb h => d.K_below hb h
 K_of_M:=fun h => d.K_of_M h
 M_mono:=fun hok h => d.M_mono (fun k hk => ⟨hok k hk.1,hk.2⟩) h
 M_bound:=fun h => d.M_mono (fun _ hk => ⟨⟨hk.1.1,hk.2⟩,hk.1.2⟩) (d.M_bound h)
 M_move:=fun hm h => d.M_move (fun k hk => hm k hk.1) h
 M_lower:=fun hb h => d.M_lower hb h
def raw (sz : Nat) : Kd (List Value) where
 sz:=sz
 E:=[]
 K:=fun _ x cs => cs = x ∧ cs.length = sz ∧ ∀ u ∈ cs,u.oneCell' = true
 M:=fun _ _ _ x cs => cs = x ∧ cs.length = sz ∧ ∀ u ∈ cs,u.oneCell' = true
 K_len:=fun h => h.2.1
 K_one:=fun h => h.2.2
 K_below:=fun _ h => h
 K_of_M:=fun h => h
 M_mono:=fun _ h => h
 M_bound:=fun h => h
 M_move:=fun _ h => h
 M_lower:=fun _ h => h
def S {α : Type} (d : Kd α) (e : Nat) (w : World) (base : Nat) (ok : Nat → Prop) (v : Value) (xs : List α) : Prop:=∃ f,(tag f d).R e w base ok v xs.zipIdx
section
variable {α β : Type} {d : Kd α} {d' : Kd β} {e e' : Nat} {w w1 W : World} {base b : Nat} {ok ok' okv oku : Nat → Prop} {u v : Value} {xs : List α} {ys : List β}
theorem S_nil (d : Kd α) (e : Nat) (w : World) (base : Nat) (ok : Nat → Prop) : S d e w base ok (.slice none 0 0) []:=⟨fun _ => 0,R_nil _ _ _ _ _⟩
end
section
variable {α β : Type} {d : Kd α} {d' : Kd β} {e e' g : Nat} {w w1 W : World} {base b : Nat} {ok ok' okv oku : Nat → Prop} {u v : Value} {xs : List α} {ys : List β}
end
section
variable {P : Program} {ops : Array Oper} {rest : List Oper} {o : Oper} {a : Act} {Q : Exit → Act → World → Prop} {Kc : Act → World → Prop} {α : Type}
end
def gap {α : Type} (f : Nat → Nat) (d : Kd α) (i : Nat) (c : List Value) : Kd (α × Nat) where
 sz:=d.sz
 E:=d.E
 K:=fun w x cs => (x.2 = i → cs = c ∧ cs.length = d.sz ∧ ∀ u ∈ cs,u.oneCell' = true) ∧ (x.2 ≠ i → d.K w x.1 cs)
 M:=fun w base ok x cs => (x.2 = i → cs = c ∧ cs.length = d.sz ∧ ∀ u ∈ cs,u.oneCell' = true) ∧ (x.2 ≠ i → d.M w base (fun k => ok k ∧ f k = x.2) x.1 cs)
 K_len:=fun {w x cs} h => by
  by_cases hx : x.2 = i
  ·exact (h.1 hx).2.1
  ·exact d.K_len (h.2 hx)
 K_one:=fun {w x cs} h => by
  by_cases hx : x.2 = i
  ·exact (h.1 hx).2.2
  ·exact d.K_one (h.2 hx)
 K_below:=fun hb h => ⟨h.1,fun hx => d.K_below hb (h.2 hx)⟩
 K_of_M:=fun h => ⟨h.1,fun hx => d.K_of_M (h.2 hx)⟩
 M_mono:=fun hok h => ⟨h.1,fun hx => d.M_mono (fun k hk => ⟨hok k hk.1,hk.2⟩) (h.2 hx)⟩
 M_bound:=fun h => ⟨h.1,fun hx => d.M_mono (fun _ hk => ⟨⟨hk.1.1,hk.2⟩,hk.1.2⟩) (d.M_bound (h.2 hx))⟩
 M_move:=fun hm h => ⟨h.1,fun hx => d.M_move (fun k hk => hm k hk.1) (h.2 hx)⟩
 M_lower:=fun hb h => ⟨h.1,fun hx => d.M_lower hb (h.2 hx)⟩
def H {α : Type} (d : Kd α) (e : Nat) (w : World) (base : Nat) (ok : Nat → Prop) (v : Value) (xs : List α) (i : Int) (oki : Nat → Prop) (c : List Value) : Prop :=
 (∀ k,oki k → ok k) ∧ ∃ f,(gap f d i.toNat c).R e w base (fun k => ok k ∧ ¬ oki k) v xs.zipIdx
section
variable {α β : Type} {d : Kd α} {e e' g n cap : Nat} {w w1 W : World} {base : Nat} {ok ok' oki okp : Nat → Prop} {u v : Value} {xs : List α} {i : Int} {c : List Value}
end
section
variable {P : Program} {ops : Array Oper} {rest : List Oper} {o : Oper} {a : Act} {Q : Exit → Act → World → Prop} {α : Type}
end
end Kd
end Go.Proofs.YtkhlfdcjgooogaaGreatW.PrintWords
namespace Go.Proofs.YtkhlfdcjgooogaaGreatW.PrintWords
open Go.RowKit
namespace Kd
structure Heap {α : Type} (d : Kd α) : Prop where
 K : ∀ {w w1 : World} {x : α} {cs : List Value},(∀ k,k < w.heap.size → w1.heap[k]? = w.heap[k]?) → d.K w x cs → d.K w1 x cs
theorem cell_heap {w w1 : World} (hb : ∀ k,k < w.heap.size → w1.heap[k]? = w.heap[k]?) {a : Addr} {v : Value} (h : w.cell? a = some v) : w1.cell? a = some v:=by
 have:=hb a.block (World.block_lt_of_cell? w a h)
 simpa [World.cell?,this] using h
theorem Heap.C {α : Type} {d : Kd α} (hd : Heap d) {w w1 : World} {A : Option Addr} {n : Nat} {xs : List α} (hb : ∀ k,k < w.heap.size → w1.heap[k]? = w.heap[k]?) (h : d.C w A n xs) : d.C w1 A n xs :=
 ⟨h.1,h.2.1,fun hn => by
  obtain ⟨ad,e,hc⟩:=h.2.2 hn
  refine ⟨ad,e,fun j p hj => ?_⟩
  obtain ⟨c,hs,hr,hcell⟩:=hc j p hj
  exact ⟨c,hs,hd.K hb hr,fun i u hu => cell_heap hb (hcell i u hu)⟩⟩
theorem zCo (k : IntKind) : Heap (Kd.int k):=⟨fun _ h => h⟩
theorem heap_string : Heap Kd.string:=⟨fun _ h => h⟩
theorem heap_slice {α : Type} {d : Kd α} (e : Nat) (hd : Heap d) : Heap (slice e d):=⟨by
 rintro w w1 x cs hb ⟨A,c,rfl,hl,hr⟩
 exact ⟨A,c,rfl,hl,hd.C hb hr⟩⟩
theorem zCv {α β : Type} {a : Kd α} {b : Kd β} (ha : Heap a) (hb' : Heap b) : Heap (pair a b):=⟨by
 rintro w w1 x cs hb ⟨c0,c1,rfl,h0,h1⟩
 exact ⟨c0,c1,rfl,ha.K hb h0,hb'.K hb h1⟩⟩
theorem heap_iso {α β : Type} {d : Kd α} (f : β → α) (hd : Heap d) : Heap (iso d f):=⟨fun hb h => hd.K hb h⟩
section
variable {α : Type} {d : Kd α} {e base g n c : Nat} {ok : Nat → Prop} {w w0 W : World} {A : Option Addr} {xs : List α}
theorem C_foot_came (hd : Heap d) (h : d.C w0 A n xs) (hb : Below w0.heap.size w0 W) (hg : w0.heap.size ≤ g) : ∀ W',KeepBut W W' g none → d.C W' A n xs:=fun W' hk =>
 hd.C (fun k hlt => (hk.2 k (Nat.lt_of_lt_of_le hlt hb.size) (by omega) (by simp)).trans (hb.block k hlt)) h
end
end Kd
end Go.Proofs.YtkhlfdcjgooogaaGreatW.PrintWords
namespace Go.Proofs.YtkhlfdcjgooogaaGreatW.PrintWords
open Go.RowKit
def Kept (w W : World) (S : Nat → Prop) : Prop:=w.heap.size ≤ W.heap.size ∧ ∀ i,i < w.heap.size → ¬ S i → W.heap[i]? = w.heap[i]?
section
variable {w W W2 : World} {S S2 S' : Nat → Prop}
theorem Kept.refl (w : World) (S : Nat → Prop) : Kept w w S:=⟨Nat.le_refl _,fun _ _ _ => rfl⟩
theorem Kept.of_below (h : Below w.heap.size w W) (S : Nat → Prop) : Kept w W S:=⟨h.size,fun i hi _ => h.block i hi⟩
theorem Kept.mono (h : Kept w W S) (hs : ∀ k,S k → S' k) : Kept w W S':=⟨h.1,fun i hi hn => h.2 i hi (fun hk => hn (hs i hk))⟩
theorem Kept.then_ (h : Kept w W S) (k : Kept W W2 S2) (hs : ∀ k,S2 k → S k ∨ w.heap.size ≤ k) : Kept w W2 S :=
 ⟨Nat.le_trans h.1 k.1,fun i hi hn => (k.2 i (Nat.lt_of_lt_of_le hi h.1) (fun h2 => (hs i h2).elim hn (fun h3 => by omega))).trans (h.2 i hi hn)⟩
theorem Kept.below (h : Kept w W S) (hb : Below W.heap.size W W2) : Kept w W2 S:=h.then_ (Kept.of_below hb (fun _ => False)) (fun _ hk => hk.elim)
theorem Kept.alloc (h : Kept w W S) (o : Obj) : Kept w (W.alloc o) S:=h.below (zAa (Below.refl _ _) o)
theorem Kept.drew (h : Kept w W S) : Kept w W.drew S:=h
theorem Kept.drewN (h : Kept w W S) (m : Nat) : Kept w (W.drewN m) S:=h
theorem Kept.setCell (h : Kept w W S) {p : Addr} (hp : S p.block ∨ w.heap.size ≤ p.block) (u : Value) : Kept w (W.setCell p u) S :=
 h.then_ (S2:=fun k => k = p.block) ⟨by simp [World.setCell],fun i _ hn => Below.heap_setCell W p u i hn⟩ (fun k hk => by rw [hk]; exact hp)
theorem Kept.keep {g : Nat} (h : KeepBut w W g none) (k : Kept W W2 S2) (hs : ∀ k,S2 k → w.heap.size ≤ k) : KeepBut w W2 g none :=
 ⟨Nat.le_trans h.1 k.1,fun i hi hg hr => (k.2 i (Nat.lt_of_lt_of_le hi h.1) (fun h2 => by have:=hs i h2; omega)).trans (h.2 i hi hg hr)⟩
end
namespace Kd
section
variable {α : Type} {d : Kd α} {e base n c : Nat} {ok oki S S2 : Nat → Prop} {w w0 W W1 W2 : World} {v : Value} {A : Option Addr} {xs : List α} {i : Int} {cs : List Value}
end
end Kd
def Foot (P : World → Prop) (W : World) (ok : Nat → Prop) : Prop:=∀ W' : World,(∀ k,ok k → k < W.heap.size → W'.heap[k]? = W.heap[k]?) → P W'
theorem heap_lt {W W1 : World} {k : Nat} (h : W1.heap[k]? = W.heap[k]?) (hlt : k < W.heap.size) : k < W1.heap.size:=by
 rw [Array.getElem?_eq_getElem hlt] at h
 exact (Array.getElem?_eq_some_iff.1 h).1
namespace Foot
variable {P Q : World → Prop} {W W1 : World} {ok ok' : Nat → Prop}
theorem now (h : Foot P W ok) : P W:=h W (fun _ _ _ => rfl)
theorem mono (h : Foot P W ok) (hok : ∀ k,ok k → ok' k) : Foot P W ok':=fun W' hW => h W' (fun k hk hlt => hW k (hok k hk) hlt)
theorem step (h : Foot P W ok) (hm : ∀ k,ok k → k < W.heap.size → W1.heap[k]? = W.heap[k]?) : Foot P W1 ok:=fun W' hW => h W' (fun k hk hlt => (hW k hk (heap_lt (hm k hk hlt) hlt)).trans (hm k hk hlt))
end Foot
namespace Kd
def F {α : Type} (d : Kd α) (W : World) (ok : Nat → Prop) (A : Option Addr) (n : Nat) (xs : List α) : Prop:=Foot (fun W => d.C W A n xs) W ok
def FK {α : Type} (d : Kd α) (W : World) (ok : Nat → Prop) (x : α) (c : List Value) : Prop:=Foot (fun W => d.K W x c) W ok
section
variable {α β : Type} {d : Kd α} {e base n n' cc g N : Nat} {ok ok' okp S : Nat → Prop} {w w0 w1 W W1 : World} {A A' : Option Addr} {u v v1 : Value} {xs : List α} {xs' : List β} {d' : Kd β} {x : α} {c : List Value}
theorem F_nil (d : Kd α) (W : World) (ok : Nat → Prop) : F d W ok none ([] : List α).length []:=fun W' _ => C_nil d W'
theorem FK_of_M (h : d.M W base ok x c) : FK d W ok x c:=fun _ hW => d.K_of_M (M_step h hW)
end
end Kd
end Go.Proofs.YtkhlfdcjgooogaaGreatW.PrintWords
namespace Go.Proofs.YtkhlfdcjgooogaaGreatW.PrintWords
open Go.RowKit
namespace Kd
def chunks (sz : Nat) (n : Nat) (inner : List Value) : List (List Value):=(List.range n).map fun j => (inner.drop (j * sz)).take sz
theorem zBk (sz n : Nat) (inner : List Value) : (chunks sz n inner).length = n:=by simp [chunks]
theorem chunks_at {sz n : Nat} {inner : List Value} {j : Nat} (hj : j < n) : (chunks sz n inner)[j]? = some ((inner.drop (j * sz)).take sz):=by simp [chunks,hj]
theorem chunks_get {sz n : Nat} {inner : List Value} {j : Nat} {c : List Value} (h : (chunks sz n inner)[j]? = some c) : c = (inner.drop (j * sz)).take sz:=by
 have hj : j < n:=by have:=(List.getElem?_eq_some_iff.1 h).1; rwa [zBk] at this
 rw [chunks_at hj] at h
 injection h with h
 exact h.symm
theorem reps_raw {α : Type} {Rr : α → List Value → Prop} {sz : Nat} {xs : List α} {inner : List Value} (h : Reps Rr sz xs inner) (hR : ∀ x c,Rr x c → c.length = sz ∧ ∀ u ∈ c,u.oneCell' = true) : Reps (fun x cs => cs = x ∧ cs.length = sz ∧ ∀ u ∈ cs,u.oneCell' = true) sz (chunks sz xs.length inner) inner:=by
 refine ⟨by rw [zBk]; exact h.1,fun j p hj => ?_⟩
 have hjl : j < xs.length:=by have:=(List.getElem?_eq_some_iff.1 hj).1; rwa [zBk] at this
 have hp:=chunks_get hj
 exact ⟨hp.symm,hR _ _ (h.2 j _ (List.getElem?_eq_getElem hjl))⟩
section
variable {α : Type} {d : Kd α} {e base n cc g : Nat} {ok ok' okp S : Nat → Prop} {w w1 W W1 : World} {A : Option Addr} {u v v1 : Value} {xs : List α} {x : α} {c : List Value}
def N {α : Type} (d : Kd α) (e : Nat) (w : World) (base : Nat) (ok : Nat → Prop) (v : Value) (xs : List α) : Prop :=
 (∀ k,v.ownBlock = some k → ok k) ∧ ∃ rows : List (List Value),rows.length = xs.length ∧ (raw d.sz).R e w base (fun k => some k = v.ownBlock) v rows ∧ ∀ (j : Nat) (x : α) (c : List Value),xs[j]? = some x → rows[j]? = some c → FK d w (fun k => ok k ∧ some k ≠ v.ownBlock) x c
theorem R_N (h : d.R e w base ok v xs) : N d e w base ok v xs:=by
 obtain ⟨h0,inner,ho,hr⟩:=h
 refine ⟨h0,chunks d.sz xs.length inner,zBk _ _ _,⟨fun k hk => hk.symm,inner,by rw [zBk]; exact ho,reps_raw hr (fun x c hp => ⟨d.K_len (d.K_of_M hp),d.K_one (d.K_of_M hp)⟩)⟩,fun j x c hx hc => ?_⟩
 rw [chunks_get hc]
 exact FK_of_M (hr.2 j x hx)
theorem N_nil (d : Kd α) (e : Nat) (w : World) (base : Nat) (ok : Nat → Prop) : N d e w base ok (.slice none 0 0) []:=R_N (R_nil _ _ _ _ _)
end
end Kd
end Go.Proofs.YtkhlfdcjgooogaaGreatW.PrintWords
namespace Go.Proofs.YtkhlfdcjgooogaaGreatW.PrintWords
theorem Reps.one {α : Type} {R : α → List Value → Prop} {ps : List α} {cs : List Value} {p : α} {v : Value} (hp : R p [v]) (h : Reps R 1 ps cs) : Reps R 1 (p :: ps) (v :: cs):=by
 refine ⟨by simp [h.1],fun j q hq => ?_⟩
 cases j with
 | zero =>
  simp only [List.getElem?_cons_zero,Option.some.injEq] at hq
  subst hq
  simpa using hp
 | succ j =>
  simp only [List.getElem?_cons_succ] at hq
  have h1:=h.2 j q hq
  simpa [Nat.mul_one] using h1
theorem Reps.front {α : Type} {R : α → List Value → Prop} {size : Nat} {ps : List α} {cs c all : List Value} {p : α} (hp : R p c) (hc : c.length = size) (h : Reps R size ps cs) (ha : c ++ cs = all) : Reps R size (p :: ps) all:=by
 subst ha
 refine ⟨by rw [List.length_append,hc,h.1,List.length_cons,Nat.succ_mul,Nat.add_comm],fun j q hq => ?_⟩
 cases j with
 | zero =>
  simp only [List.getElem?_cons_zero,Option.some.injEq] at hq
  subst hq
  rw [Nat.zero_mul,List.drop_zero,List.take_append_of_le_length (by omega),List.take_of_length_le (by omega)]
  exact hp
 | succ j =>
  simp only [List.getElem?_cons_succ] at hq
  have h1:=h.2 j q hq
  rw [Nat.succ_mul,List.drop_append,List.drop_of_length_le (by rw [hc]; exact Nat.le_add_left _ _),List.nil_append,hc,Nat.add_sub_cancel]
  exact h1
theorem Reps.c2 {α : Type} {R : α → List Value → Prop} {ps : List α} {cs : List Value} {p : α} {va vb : Value} (hp : R p [va,vb]) (h : Reps R 2 ps cs) : Reps R 2 (p :: ps) (va :: vb :: cs):=Reps.front hp rfl h rfl
theorem Reps.c3 {α : Type} {R : α → List Value → Prop} {ps : List α} {cs : List Value} {p : α} {va vb vc : Value} (hp : R p [va,vb,vc]) (h : Reps R 3 ps cs) : Reps R 3 (p :: ps) (va :: vb :: vc :: cs):=Reps.front hp rfl h rfl
theorem Reps.c4 {α : Type} {R : α → List Value → Prop} {ps : List α} {cs : List Value} {p : α} {va vb vc vd : Value} (hp : R p [va,vb,vc,vd]) (h : Reps R 4 ps cs) : Reps R 4 (p :: ps) (va :: vb :: vc :: vd :: cs):=Reps.front hp rfl h rfl
theorem Reps.c5 {α : Type} {R : α → List Value → Prop} {ps : List α} {cs : List Value} {p : α} {va vb vc vd ve : Value} (hp : R p [va,vb,vc,vd,ve]) (h : Reps R 5 ps cs) : Reps R 5 (p :: ps) (va :: vb :: vc :: vd :: ve :: cs):=Reps.front hp rfl h rfl
theorem Reps.c6 {α : Type} {R : α → List Value → Prop} {ps : List α} {cs : List Value} {p : α} {va vb vc vd ve vf : Value} (hp : R p [va,vb,vc,vd,ve,vf]) (h : Reps R 6 ps cs) : Reps R 6 (p :: ps) (va :: vb :: vc :: vd :: ve :: vf :: cs):=Reps.front hp rfl h rfl
theorem Reps.c7 {α : Type} {R : α → List Value → Prop} {ps : List α} {cs : List Value} {p : α} {va vb vc vd ve vf vg : Value} (hp : R p [va,vb,vc,vd,ve,vf,vg]) (h : Reps R 7 ps cs) : Reps R 7 (p :: ps) (va :: vb :: vc :: vd :: ve :: vf :: vg :: cs):=Reps.front hp rfl h rfl
theorem Reps.c8 {α : Type} {R : α → List Value → Prop} {ps : List α} {cs : List Value} {p : α} {va vb vc vd ve vf vg vh : Value} (hp : R p [va,vb,vc,vd,ve,vf,vg,vh]) (h : Reps R 8 ps cs) : Reps R 8 (p :: ps) (va :: vb :: vc :: vd :: ve :: vf :: vg :: vh :: cs):=Reps.front hp rfl h rfl
theorem Reps.c9 {α : Type} {R : α → List Value → Prop} {ps : List α} {cs : List Value} {p : α} {va vb vc vd ve vf vg vh vi : Value} (hp : R p [va,vb,vc,vd,ve,vf,vg,vh,vi]) (h : Reps R 9 ps cs) : Reps R 9 (p :: ps) (va :: vb :: vc :: vd :: ve :: vf :: vg :: vh :: vi :: cs):=Reps.front hp rfl h rfl
theorem Reps.c10 {α : Type} {R : α → List Value → Prop} {ps : List α} {cs : List Value} {p : α} {va vb vc vd ve vf vg vh vi vj : Value} (hp : R p [va,vb,vc,vd,ve,vf,vg,vh,vi,vj]) (h : Reps R 10 ps cs) : Reps R 10 (p :: ps) (va :: vb :: vc :: vd :: ve :: vf :: vg :: vh :: vi :: vj :: cs):=Reps.front hp rfl h rfl
end Go.Proofs.YtkhlfdcjgooogaaGreatW.PrintWords
namespace Go.Proofs.YtkhlfdcjgooogaaGreatW.PrintLast
def up (b : Nat → Bool) (i : Nat) : Nat → Bool:=fun j => if j = i then true else b j
section
variable {P : Program} {ops : Array Oper} {Q : Exit → Act → World → Prop} {md : Region.Mode} {T : Bool × List (List Nat × List Nat)} {B : List Nat} {O : List Nat} {b : Nat → Bool} {i j n : Nat}
end
end Go.Proofs.YtkhlfdcjgooogaaGreatW.PrintLast
namespace Go.Proofs.YtkhlfdcjgooogaaGreatW.PrintWords
open Go.RowKit
section
variable {P : Program} {ops : Array Oper} {rest : List Oper} {o : Oper} {a : Act} {Q : Exit → Act → World → Prop} {W : World}
theorem zBO (hw : Region.wanted o (yielded ops a.tmps) = true) (h : wpList P ops Q ({ o with guard:=none } :: rest) a W) : wpList P ops Q (o :: rest) a W:=by
 have h1 : Region.wanted { o with guard:=none } (yielded ops a.tmps) = true:=rfl
 unfold wpList at h ⊢
 rw [if_pos h1] at h
 rw [if_pos hw]
 exact h
end
end Go.Proofs.YtkhlfdcjgooogaaGreatW.PrintWords
namespace Go.Proofs.YtkhlfdcjgooogaaGreatW.PrintMore
open Go.RowKit Go.Proofs.YtkhlfdcjgooogaaGreatW.PrintWords
namespace Kd
open Go.Proofs.YtkhlfdcjgooogaaGreatW.PrintWords.Kd
end Kd
namespace Kd
open Go.Proofs.YtkhlfdcjgooogaaGreatW.PrintWords.Kd
section
variable {α : Type} {d : Kd α} {e base g N : Nat} {ok : Nat → Prop} {W w1 : World} {u v : Value} {xs : List α}
end
end Kd
theorem zAP (k k' : IntKind) (x y : Int) : Builtin.max2 (.int k x) (.int k' y) = pure (.int k (if x < y then y else x)):=by simp only [Builtin.max2,gt_iff_lt]
theorem zAQ (k k' : IntKind) (x y : Int) : Builtin.min2 (.int k x) (.int k' y) = pure (.int k (if y < x then y else x)):=by simp only [Builtin.min2]
theorem max_two (ats : Array TypeId) (ty : TypeId) (a b : Value) : Builtin.max_ ats ty #[a,b] = (Builtin.max2 a b >>= fun s => pure s):=by simp only [Builtin.max_,List.foldlM_cons,List.foldlM_nil]
theorem min_two (ats : Array TypeId) (ty : TypeId) (a b : Value) : Builtin.min_ ats ty #[a,b] = (Builtin.min2 a b >>= fun s => pure s):=by simp only [Builtin.min_,List.foldlM_cons,List.foldlM_nil]
theorem zAK (ats : Array TypeId) (ty : TypeId) (a b c : Value) : Builtin.max_ ats ty #[a,b,c] = (Builtin.max2 a b >>= fun s => Builtin.max2 s c >>= fun s => pure s):=by simp only [Builtin.max_,List.foldlM_cons,List.foldlM_nil]
theorem zAJ (ats : Array TypeId) (ty : TypeId) (a b c : Value) : Builtin.min_ ats ty #[a,b,c] = (Builtin.min2 a b >>= fun s => Builtin.min2 s c >>= fun s => pure s):=by simp only [Builtin.min_,List.foldlM_cons,List.foldlM_nil]
theorem zAS (ats : Array TypeId) (ty : TypeId) (a b c d : Value) : Builtin.max_ ats ty #[a,b,c,d] = (Builtin.max2 a b >>= fun s => Builtin.max2 s c >>= fun s => Builtin.max2 s d >>= fun s => pure s):=by simp only [Builtin.max_,List.foldlM_cons,List.foldlM_nil]
theorem zAR (ats : Array TypeId) (ty : TypeId) (a b c d : Value) : Builtin.min_ ats ty #[a,b,c,d] = (Builtin.min2 a b >>= fun s => Builtin.min2 s c >>= fun s => Builtin.min2 s d >>= fun s => pure s):=by simp only [Builtin.min_,List.foldlM_cons,List.foldlM_nil]
end Go.Proofs.YtkhlfdcjgooogaaGreatW.PrintMore
namespace Go.Proofs.YtkhlfdcjgooogaaGreatW.PrintWords
open Go.RowKit
section
variable {P : Program} {ops : Array Oper} {rest : List Oper} {o : Oper} {a : Act} {Q : Exit → Act → World → Prop} {W : World}
theorem zAF {f : FuncId} {as : Array Operand} {ts : Array TypeId} (_ho : o.op = .call { callee:=.value (.func f),args:=as,argTypes:=ts }) (h : wpList P ops Q (o :: rest) a W) : wpList P ops Q (o :: rest) a W:=h
theorem gate_builtin {b : Builtin} {xs : Array Operand} {ts : Array TypeId} (_ho : o.op = .call { callee:=.builtin b,args:=xs,argTypes:=ts }) (h : wpList P ops Q (o :: rest) a W) : wpList P ops Q (o :: rest) a W:=h
end
def mx (a b : Int) : Int:=if a < b then b else a
namespace Kd
section
variable {α : Type} {d : Kd α} {e base : Nat} {ok : Nat → Prop} {W w1 : World} {v : Value} {xs : List α}
end
section
variable {α : Type} {d : Kd α} {e base g n cap : Nat} {ok oki okp : Nat → Prop} {W : World} {xs : List α} {i : Int} {c : List Value}
end
section
variable {α : Type} {d : Kd α} {e base b b' g N : Nat} {ok ok1 : Nat → Prop} {W W2 w1 : World} {u v : Value} {xs ys : List α} {S : Nat → Prop}
end
end Kd
end Go.Proofs.YtkhlfdcjgooogaaGreatW.PrintWords
namespace Go.Proofs.YtkhlfdcjgooogaaGreatW.PrintWords
open Go.RowKit
namespace Kd
def V {α : Type} (d : Kd α) (_e : Nat) (W : World) (_base : Nat) (ok : Nat → Prop) (v : Value) (xs : List α) : Prop:=∃ A c,v = .slice A xs.length c ∧ xs.length ≤ c ∧ F d W ok A xs.length xs
section
variable {α β : Type} {d : Kd α} {e base base' n m c g N' lo hi : Nat} {ok ok' S : Nat → Prop} {w W w1 : World} {A : Option Addr} {ad : Addr} {u v v1 : Value} {xs : List α}
theorem V_nil (d : Kd α) (e : Nat) (W : World) (base : Nat) (ok : Nat → Prop) : V d e W base ok (.slice none 0 0) []:=⟨none,0,rfl,Nat.le_refl _,F_nil d W ok⟩
end
end Kd
end Go.Proofs.YtkhlfdcjgooogaaGreatW.PrintWords
