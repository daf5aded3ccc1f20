import Derived.Test.YtpggidmpkhmijaaPureP
import Derived.Test.YtpggidmpkhmijaaPf20
import Derived.Test.YtpggidmpkhmijaaPf10
import Derived.Test.YtpggidmpkhmijaaPf23
import Derived.Test.YtpggidmpkhmijaaPf15
import Derived.Test.YtpggidmpkhmijaaPf16
import Derived.Deep.RegionHeld3
import Derived.Outline
import Derived.Lib.Hide
set_option linter.unusedVariables false
set_option linter.unusedSimpArgs false
namespace Go.Proofs.Ytpggidmpkhmijaa.P
open Go.RowKit Go.Proofs.YtpggidmpkhmijaaW.PrintWords Go.Proofs.YtpggidmpkhmijaaW.PrintLast Go.Proofs.YtpggidmpkhmijaaW.PrintMore
theorem zCu {α : Type} (l : List α) (j : Nat) (h : j < l.length) : l.take (j + 1) = l.take j ++ [l[j]]:=List.take_succ_eq_append_getElem h
theorem beg_loop (ns : List S24) (hn : ns.length < 1000000) (i : Nat) (kids : List Int) (hkl : kids.length < 1000000)
  (IH : ∀ p,p < i → ∃ v,Ev (fun k => zAt.f k ns (p : Int)) v ∧ (v = -1 ∨ ∃ t o,v = ((o : Nat) : Int) ∧ AtT ns o t ∧ o + t.size = p + 1)) :
  ∀ (j o : Nat) (ts : List RT),j ≤ kids.length → o ≤ i → i < 1000000 → AtF ns o ts → ∃ v,Ev (fun k => zAt.l0 k ns (o : Int) kids ((j : Int) - 1)) v ∧
   (v = -1 ∨ ∃ o' ts',v = ((o' : Nat) : Int) ∧ o' ≤ o ∧ AtF ns o' ts' ∧ RT.roots o' ts' = kids.take j ++ RT.roots o ts ∧ o' + RT.sizes ts' = o + RT.sizes ts)
 | 0,o,ts,hj,ho,hi,hF => ⟨o,Ev.step (fun k => by simp only [zAt.l0]; rw [if_neg (by omega)]) (Ev.now _),Or.inr ⟨o,ts,rfl,Nat.le_refl _,hF,by simp,rfl⟩⟩
 | j + 1,o,ts,hj,ho,hi,hF => by
  have hjl : j < kids.length:=by omega
  have e0 : (((j + 1 : Nat) : Int) - 1) = (j : Int):=by omega
  have e1 : wrap64 ((o : Int) - 1) = (o : Int) - 1:=zBj (by omega) (by omega)
  have e2 : wrap64 ((j : Int) - 1) = (j : Int) - 1:=zBj (by omega) (by omega)
  rw [e0]
  have hno : ∀ g : Nat → Option Int,(∀ k,g (k + 1) = some (-1)) → Ev g (-1):=fun g h => Ev.step h (Ev.now _)
  by_cases hc : kids[j] = (o : Int) - 1
  ·by_cases h0 : o = 0
   ·refine ⟨-1,Ev.step (f:=fun k => zAt.j1 k ns kids (j : Int) true) (fun k => ?_) (hno _ fun k => by simp only [zAt.j1]; rw [if_pos trivial]),Or.inl rfl⟩
    simp only [zAt.l0]
    rw [if_pos (by omega),if_pos (by omega),if_pos (by omega),rdN kids j hjl,e1,if_pos hc,decide_eq_true (by omega)]
   ·obtain ⟨v,hv,hvv⟩:=IH (o - 1) (by omega)
    have hk : kids[j] = ((o - 1 : Nat) : Int):=by omega
    have hstep : ∀ r,Ev (fun k => (zAt.f k ns ((o - 1 : Nat) : Int)).bind fun t => if t < 0 then some (-1) else zAt.l0 k ns t kids ((j : Int) - 1)) r → Ev (fun k => zAt.l0 k ns (o : Int) kids (j : Int)) r:=fun r h => by
     refine Ev.step (f:=fun k => zAt.j1 k ns kids (j : Int) false) (fun k => ?_) (Ev.step (fun k => ?_) h)
     ·simp only [zAt.l0]
      rw [if_pos (by omega),if_pos (by omega),if_pos (by omega),rdN kids j hjl,e1,if_pos hc,decide_eq_false (by omega)]
     ·simp only [zAt.j1]
      rw [if_neg (by simp),if_pos (by omega),if_pos (by omega),rdN kids j hjl,hk,e2]
    rcases hvv with rfl | ⟨t,o1,rfl,hat,hsz⟩
    ·exact ⟨-1,hstep _ (Ev.bind hv (ev_iff (by omega) (Ev.now _))),Or.inl rfl⟩
    ·have hso : o1 + t.size = o:=by omega
     have hF2 : AtF ns o1 (t :: ts):=AtF.cons hat (by rw [hso]; exact hF)
     obtain ⟨v',hv',hvv'⟩:=beg_loop ns hn i kids hkl IH j o1 (t :: ts) (by omega) (by omega) hi hF2
     refine ⟨v',hstep _ (Ev.bind hv (ev_ifn (by omega) hv')),?_⟩
     rcases hvv' with h | ⟨o',ts',h1,h2,h3,h4,h5⟩
     ·exact Or.inl h
     ·refine Or.inr ⟨o',ts',h1,by omega,h3,?_,by rw [h5,RT.sizes]; omega⟩
      rw [h4,zCu kids j hjl,RT.roots,hso,List.append_assoc,List.singleton_append,hc,show ((o1 : Int) + (t.size : Int) - 1) = (o : Int) - 1 from by omega]
  ·refine ⟨-1,Ev.step (f:=fun k => zAt.j1 k ns kids (j : Int) true) (fun k => ?_) (hno _ fun k => by simp only [zAt.j1]; rw [if_pos trivial]),Or.inl rfl⟩
   simp only [zAt.l0]
   rw [if_pos (by omega),if_pos (by omega),if_pos (by omega),rdN kids j hjl,e1,if_neg hc]
theorem beg_any (ns : List S24) (hn : ns.length < 1000000) (hk : ∀ x ∈ ns,x.f4.length < 1000000) : ∀ p,p < ns.length → ∃ v,Ev (fun k => zAt.f k ns (p : Int)) v ∧ (v = -1 ∨ ∃ t o,v = ((o : Nat) : Int) ∧ AtT ns o t ∧ o + t.size = p + 1):=by
 intro p
 induction p using Nat.strongRecOn with
 | _ p IH =>
  intro hp
  have hx:=hk ns[p] (List.getElem_mem hp)
  obtain ⟨v,hv,hvv⟩:=beg_loop ns hn p ns[p].f4 hx (fun q hq => IH q hq (by omega)) ns[p].f4.length p [] (Nat.le_refl _) (Nat.le_refl _) (by omega) (AtF.nil _ _)
  refine ⟨v,Ev.step (fun k => ?_) hv,?_⟩
  ·simp only [zAt.f]
   rw [if_pos (by omega),if_pos (by omega),rdT24 ns p hp,zBj (by omega) (by omega)]
  ·rcases hvv with h | ⟨o,ts,h1,h2,h3,h4,h5⟩
   ·exact Or.inl h
   ·simp only [RT.sizes,Nat.add_zero,RT.roots,List.append_nil,List.take_length] at h4 h5
    refine Or.inr ⟨.node ns[p] ts,o,h1,AtT.node h3 (by omega) ?_,by rw [RT.size]; omega⟩
    simp only [h5,h4]
theorem roots_snoc (o : Nat) (ks : List RT) (j : Nat) (h : j < ks.length) : ∃ hr : j < (RT.roots o ks).length,(RT.roots o ks)[j] = ((o + RT.sizes (ks.take j) : Nat) : Int) + (ks[j].size : Int) - 1:=by
 induction ks generalizing o j with
 | nil => simp at h
 | cons t ts ih =>
  cases j with
  | zero => exact ⟨by simp [RT.roots],by simp [RT.roots,RT.sizes]⟩
  | succ j =>
   obtain ⟨h1,h2⟩:=ih (o + t.size) j (by simpa using h)
   refine ⟨by simpa [RT.roots] using h1,?_⟩
   simp only [RT.roots,List.getElem_cons_succ,List.take_succ_cons,RT.sizes]
   rw [h2]
   omega
theorem sizes_take_snoc (ks : List RT) (j : Nat) (h : j < ks.length) : RT.sizes (ks.take (j + 1)) = RT.sizes (ks.take j) + ks[j].size:=by
 rw [zCu ks j h,RT.sizes_append]
 simp [RT.sizes]
theorem begK_loop (ns : List S24) (hn : ns.length < 1000000) (o : Nat) (ks : List RT) (ho : o + RT.sizes ks < 1000000) (hkl : ks.length < 1000000)
  (IH : ∀ j (h : j < ks.length),Ev (fun k => zAt.f k ns (((o + RT.sizes (ks.take j) : Nat) : Int) + (ks[j].size : Int) - 1)) ((o + RT.sizes (ks.take j) : Nat) : Int)) :
  ∀ j,j ≤ ks.length → Ev (fun k => zAt.l0 k ns ((o + RT.sizes (ks.take j) : Nat) : Int) (RT.roots o ks) ((j : Int) - 1)) (o : Int)
 | 0,hj => Ev.step (fun k => by simp only [zAt.l0]; rw [if_neg (by omega)]) (by simpa [RT.sizes] using Ev.now (o : Int))
 | j + 1,hj => by
  have hjl : j < ks.length:=by omega
  obtain ⟨h1,h2⟩:=roots_snoc o ks j hjl
  have hle : RT.sizes (ks.take (j + 1)) ≤ RT.sizes ks:=by
   have:=RT.sizes_append (ks.take (j + 1)) (ks.drop (j + 1))
   rw [List.take_append_drop] at this
   omega
  have hs:=sizes_take_snoc ks j hjl
  have hp:=RT.size_pos ks[j]
  have e0 : (((j + 1 : Nat) : Int) - 1) = (j : Int):=by omega
  have e1 : wrap64 (((o + RT.sizes (ks.take (j + 1)) : Nat) : Int) - 1) = ((o + RT.sizes (ks.take j) : Nat) : Int) + (ks[j].size : Int) - 1:=by rw [zBj (by omega) (by omega)]; omega
  have e2 : wrap64 ((j : Int) - 1) = (j : Int) - 1:=zBj (by omega) (by omega)
  rw [e0]
  refine Ev.step (f:=fun k => zAt.j1 k ns (RT.roots o ks) (j : Int) false) (fun k => ?_) (Ev.step (f:=fun k => (zAt.f k ns (((o + RT.sizes (ks.take j) : Nat) : Int) + (ks[j].size : Int) - 1)).bind fun t => if t < 0 then some (-1) else zAt.l0 k ns t (RT.roots o ks) ((j : Int) - 1)) (fun k => ?_) (Ev.bind (IH j hjl) (ev_ifn (by omega) (begK_loop ns hn o ks ho hkl IH j (by omega)))))
  ·simp only [zAt.l0]
   rw [if_pos (by omega),if_pos (by omega),if_pos (by omega),rdN _ j h1,h2,e1,if_pos rfl,decide_eq_false (by omega)]
  ·simp only [zAt.j1]
   rw [if_neg (by simp),if_pos (by omega),if_pos (by omega),rdN _ j h1,h2,e2]
mutual
theorem beg_at (ns : List S24) (hn : ns.length < 1000000) : ∀ (t : RT) (o : Nat),AtT ns o t → Ev (fun k => zAt.f k ns ((o : Int) + t.size - 1)) (o : Int)
 | .node x ks,o,h => by
  obtain ⟨hF,hl,hx⟩:=h.kids
  have hkl:=zBP ks
  have he : ((o : Int) + ((RT.node x ks).size : Nat) - 1) = ((o + RT.sizes ks : Nat) : Int):=by rw [RT.size]; omega
  rw [he]
  have H:=begK_loop ns hn o ks (by omega) (by omega) (fun j hj => beg_ats ns hn ks o hF (by omega) j hj) ks.length (Nat.le_refl _)
  rw [List.take_length] at H
  refine Ev.step (fun k => ?_) H
  simp only [zAt.f]
  rw [if_pos (by omega),if_pos (by omega),rdT24 ns _ hl,hx]
  simp only [RT.roots_len]
  rw [zBj (by omega) (by omega)]
theorem beg_ats (ns : List S24) (hn : ns.length < 1000000) : ∀ (ks : List RT) (o : Nat),AtF ns o ks → o ≤ ns.length → ∀ j (h : j < ks.length),Ev (fun k => zAt.f k ns (((o + RT.sizes (ks.take j) : Nat) : Int) + (ks[j].size : Int) - 1)) ((o + RT.sizes (ks.take j) : Nat) : Int)
 | [],o,h,ho,j,hj => by simp at hj
 | t :: ts,o,h,ho,0,hj => by simpa [RT.sizes] using beg_at ns hn t o (h.head ho).1
 | t :: ts,o,h,ho,j + 1,hj => by
  have h2:=h.head ho
  have hle:=h2.1.le
  have H:=beg_ats ns hn ts (o + t.size) h2.2 hle j (by simpa using hj)
  simp only [List.take_succ_cons,List.getElem_cons_succ,RT.sizes]
  rw [show o + (t.size + RT.sizes (ts.take j)) = o + t.size + RT.sizes (ts.take j) from by omega]
  exact H
end
def rangeB : List S24 → Nat → Bool
 | [],_ => true
 | x :: xs,i => (x.f4.all fun k => decide (0 ≤ k) && decide (k < (i : Int))) && rangeB xs (i + 1)
theorem rs_l1 (ns : List S24) (i : Nat) (hi : i < ns.length) (n r : Int) (hk : ns[i].f4.length < 1000000) (hi2 : i < 1000000) (q : Bool) (h : Ev (fun k => zAq.l0 k n ((i + 1 : Nat) : Int) ns r) q) : ∀ (d j : Nat),j + d = ns[i].f4.length →
  Ev (fun k => zAq.l1 k n (i : Int) (j : Int) ns r) (((ns[i].f4.drop j).all fun k => decide (0 ≤ k) && decide (k < (i : Int))) && q)
 | 0,j,hd => by
  rw [List.drop_of_length_le (by omega)]
  refine Ev.step (fun k => by simp only [zAq.l1]; rw [if_pos (by omega),if_pos (by omega),rdT24 ns i hi,if_neg (by omega),wrapS i (by omega)]) ?_
  simpa using h
 | d + 1,j,hd => by
  have hj : j < ns[i].f4.length:=by omega
  rw [List.drop_eq_getElem_cons hj,List.all_cons]
  by_cases h1 : ns[i].f4[j] < 0
  ·rw [show decide (0 ≤ ns[i].f4[j]) = false from decide_eq_false (by omega)]
   refine Ev.step (fun k => by simp only [zAq.l1]; rw [if_pos (by omega),if_pos (by omega),rdT24 ns i hi,if_pos (by omega),if_pos (by omega),rdN _ j hj,if_pos h1]) (by simpa using Ev.now false)
  ·rw [show decide (0 ≤ ns[i].f4[j]) = true from decide_eq_true (by omega)]
   by_cases h2 : ns[i].f4[j] ≥ (i : Int)
   ·rw [show decide (ns[i].f4[j] < (i : Int)) = false from decide_eq_false (by omega)]
    refine Ev.step (fun k => by simp only [zAq.l1]; rw [if_pos (by omega),if_pos (by omega),rdT24 ns i hi,if_pos (by omega),if_pos (by omega),rdN _ j hj,if_neg h1,if_pos h2]) (by simpa using Ev.now false)
   ·rw [show decide (ns[i].f4[j] < (i : Int)) = true from decide_eq_true (by omega)]
    refine Ev.step (fun k => by simp only [zAq.l1]; rw [if_pos (by omega),if_pos (by omega),rdT24 ns i hi,if_pos (by omega),if_pos (by omega),rdN _ j hj,if_neg h1,if_neg h2,wrapS j (by omega)]) ?_
    simpa using rs_l1 ns i hi n r hk hi2 q h d (j + 1) (by omega)
theorem rs_l0 (ns : List S24) (hn : ns.length < 1000000) (hk : ∀ x ∈ ns,x.f4.length < 1000000) (r : Int) (v : Int) (hv : Ev (fun k => zAt.f k ns ((ns.length : Int) - 1)) v) : ∀ (d i : Nat),i + d = ns.length →
  Ev (fun k => zAq.l0 k (ns.length : Int) (i : Int) ns r) (rangeB (ns.drop i) i && v == 0)
 | 0,i,hd => by
  rw [List.drop_of_length_le (by omega),rangeB,Bool.true_and]
  refine Ev.step (fun k => by simp only [zAq.l0]; rw [if_neg (by omega),zBj (by omega) (by omega)]) ?_
  exact Ev.bind hv (Ev.now _)
 | d + 1,i,hd => by
  have hi : i < ns.length:=by omega
  rw [List.drop_eq_getElem_cons hi,rangeB,Bool.and_assoc]
  refine Ev.step (fun k => by simp only [zAq.l0]; rw [if_pos (by omega)]) ?_
  simpa using rs_l1 ns i hi (ns.length : Int) r (hk _ (List.getElem_mem hi)) (by omega) _ (rs_l0 ns hn hk r v hv d (i + 1) (by omega)) ns[i].f4.length 0 (by omega)
theorem rangeB_of : ∀ (ns : List S24) (i : Nat),(∀ j (h : j < ns.length),∀ k ∈ ns[j].f4,0 ≤ k ∧ k < ((i + j : Nat) : Int)) → rangeB ns i = true
 | [],i,h => rfl
 | x :: xs,i,h => by
  rw [rangeB,Bool.and_eq_true]
  refine ⟨?_,rangeB_of xs (i + 1) fun j hj k hk => ?_⟩
  ·rw [List.all_eq_true]
   intro k hk
   have:=h 0 (by simp) k (by simpa using hk)
   simp only [Nat.add_zero] at this
   simp [this.1,this.2]
  ·have:=h (j + 1) (by simpa using hj) k (by simpa using hk)
   rw [show i + 1 + j = i + (j + 1) from by omega]
   exact this
theorem zBp (ns : List S24) (hk : ∀ x ∈ ns,x.f4.length < 1000000) (r : Int) (b : Bool) (hb : zAJ.f ns r = some b) : Ev (fun k => zAq.f k ns r) b:=by
 have hno : ∀ g : Nat → Option Bool,(∀ k,g (k + 1) = some false) → Ev g false:=fun g h => Ev.step h (Ev.now _)
 have hj0 : Ev (fun k => zAq.j0 k (ns.length : Int) true ns r) false:=hno _ fun k => by simp only [zAq.j0]; rw [if_pos trivial]
 have hfl : ∀ t : RT,ns = RT.flat 0 t → t.size ≤ 4000 → r = (t.size : Int) - 1 → b = true:=fun t h1 h2 h3 => by
  have:=zBq t h2
  rw [← h1,← h3,hb] at this
  exact Option.some.inj this
 unfold zAq.f
 by_cases h1 : (ns.length : Int) < 1
 ·have : b = false:=by
   rcases zBz ns r with h | ⟨t,ht,_,_⟩
   ·rw [hb] at h; exact Option.some.inj h
   ·have:=RT.size_pos t; rw [ht,RT.flat_len] at h1; omega
  rw [this]
  exact ev_iff h1 hj0
 ·refine ev_ifn h1 ?_
  by_cases h2 : (ns.length : Int) > 4000
  ·have : b = false:=by
    rcases zBz ns r with h | ⟨t,ht,_,_⟩
    ·rw [hb] at h; exact Option.some.inj h
    ·rw [ht,RT.flat_len] at h2; omega
   rw [this]
   exact ev_iff h2 hj0
  ·refine ev_ifn h2 ?_
   rw [zBj (by omega) (by omega)]
   by_cases h3 : r = (ns.length : Int) - 1
   ·rw [show (r != (ns.length : Int) - 1) = false from by simp [h3]]
    obtain ⟨v,hv,hvv⟩:=beg_any ns (by omega) hk (ns.length - 1) (by omega)
    rw [show ((ns.length - 1 : Nat) : Int) = (ns.length : Int) - 1 from by omega] at hv
    refine Ev.step (f:=fun k => zAq.l0 k (ns.length : Int) ((0 : Nat) : Int) ns r) (fun k => by simp only [zAq.j0]; rw [if_neg (by simp)]; rfl) ?_
    have H:=rs_l0 ns (by omega) hk r v hv ns.length 0 (by omega)
    rw [List.drop_zero] at H
    have hbb : b = (rangeB ns 0 && v == 0):=by
     cases b with
     | true =>
      rcases zBz ns r with h | ⟨t,ht,hts,hr⟩
      ·rw [hb] at h; cases h
      ·have hat : AtT ns 0 t:=by unfold AtT; rw [List.drop_zero,ht,← RT.flat_len 0 t,List.take_length]
       have hv2:=beg_at ns (by omega) t 0 hat
       have hlen : ns.length = t.size:=by rw [ht,RT.flat_len]
       rw [show (((0 : Nat) : Int) + (t.size : Int) - 1) = (ns.length : Int) - 1 from by omega] at hv2
       have hv0 : v = 0:=by
        obtain ⟨K,hK⟩:=hv
        obtain ⟨K2,hK2⟩:=hv2
        have a1:=hK (K + K2) (by omega)
        have a2:=hK2 (K + K2) (by omega)
        rw [a1] at a2
        exact Option.some.inj a2
       have hrg : rangeB ns 0 = true:=rangeB_of ns 0 fun j hj k hkm => by
        obtain ⟨x,ks,o,e1,e2⟩:=node_at t j (by omega)
        rw [← ht,rdT24 ns j hj] at e1
        rw [e1] at hkm
        have:=zCt ks o k hkm
        omega
       rw [hrg,hv0]
       rfl
     | false =>
      cases hz : (rangeB ns 0 && v == 0) with
      | false => rfl
      | true =>
       exfalso
       have hv0 : v = 0:=by
        simp only [Bool.and_eq_true,beq_iff_eq] at hz
        exact hz.2
       rcases hvv with h | ⟨t,o,h4,h5,h6⟩
       ·omega
       ·have ho : o = 0:=by omega
        subst ho
        have hfl2 : ns = RT.flat 0 t:=by
         unfold AtT at h5
         rw [List.drop_zero,show t.size = ns.length from by omega,List.take_length] at h5
         exact h5
        have:=hfl t hfl2 (by omega) (by omega)
        cases this
    rw [hbb]
    exact H
   ·rw [show (r != (ns.length : Int) - 1) = true from by simp [h3]]
    have : b = false:=by
     rcases zBz ns r with h | ⟨t,ht,_,hr⟩
     ·rw [hb] at h; exact Option.some.inj h
     ·have hlen : ns.length = t.size:=by rw [ht,RT.flat_len]
      omega
    rw [this]
    exact hj0
theorem C_lit {α : Type} (d : Kd α) (W : World) (e : Nat) (xs : List α) (cs : List Value) (h : Reps (d.K (W.alloc (.cells cs.toArray e))) d.sz xs cs) (hn : xs.length ≤ 9223372036854775807) :
  d.C (W.alloc (.cells cs.toArray e)) (some ⟨W.heap.size,0,none⟩) xs.length xs:=by
 have h2:=World.ownsRow_lit (base:=0) (e:=e) (size:=d.sz) W cs.toArray xs.length (Nat.zero_le _) (by simpa [maxLen] using hn) (by simpa using h.1)
 obtain ⟨A,c,he,hr⟩:=own_reads_row (by simpa using h2) h rfl
 cases he
 exact hr
def shT1 : List S24:=[⟨22,0,0,⟨#[120]⟩,[]⟩]
def shT2 : List S24:=[⟨22,0,0,⟨#[120]⟩,[]⟩,⟨7,0,0,⟨#[97]⟩,[0]⟩]
def shT3 : List S24:=[⟨22,0,0,⟨#[120]⟩,[]⟩,⟨7,0,0,⟨#[97]⟩,[0]⟩,⟨6,0,0,⟨#[]⟩,[1]⟩]
theorem sh1 : zAS.f 9 22 0 0 ⟨#[120]⟩ [] [] = some (shT1,0):=by kernel_rfl
theorem sh2 : zAS.f 9 7 0 0 ⟨#[97]⟩ [] [⟨shT1,0⟩] = some (shT2,1):=by kernel_rfl
theorem sh3 : zAS.f 9 6 0 0 ⟨#[]⟩ [] [⟨shT2,1⟩] = some (shT3,2):=by kernel_rfl
theorem sh4 : zAI.f 9 shT3 2 = some 3:=by kernel_rfl
theorem sh5 : zAF.f 9 shT3 2 = some [1,2,-1]:=by kernel_rfl
theorem sh6 : zAB.f 9 [0] [0] = some true:=by kernel_rfl
theorem sh7 : zAB.f 9 [1,2,-1] [1,2,-1] = some true:=by kernel_rfl
def zBC.f : Option Bool:=some true
theorem nodeC (W : World) (A : Option Addr) (c : Nat) (xs : List S24) (r : Int) (h : Kd.C k24 W A xs.length xs) (hc : xs.length ≤ c) :
  Kd.C k30 (W.alloc (.cells #[.slice A xs.length c,.int .i64 r] 30)) (some ⟨W.heap.size,0,none⟩) 1 [(⟨xs,r⟩ : S30)]:=by
 have:=C_lit k30 W 30 [(⟨xs,r⟩ : S30)] [.slice A xs.length c,.int .i64 r] ?_ (by simp)
 ·simpa using this
 ·exact Reps.front (k30_mk _ ⟨xs,r⟩ hc (Kd.C_alloc h _)) rfl (Reps.none _ _) rfl
set_option maxRecDepth 100000 in
set_option maxHeartbeats 4000000 in
theorem zBC.calls (r : Bool) (w : World) (h : zBC.f = some r) : Calls Try.prog 8 #[] w fun e w' => e = .returned (.bool r) ∧ Below w.heap.size w w':=by
 obtain rfl:=Option.some.inj h
 clear h
 have hu30:=Try.underlying30
 have hu24:=Try.underlying24
 go_enter Try.func8,Try.ntmps8
 go_wp2_with fail
 refine (zAS.calls 9 22 0 0 ⟨#[120]⟩ none 0 [] none 0 [] shT1 0 _ (Kd.C_nil _ _) (Nat.le_refl _) (Kd.C_nil _ _) (Nat.le_refl _) sh1).mono ?_
 rintro e w1 ⟨v1,rfl,hS1,hb1⟩
 obtain ⟨A1,c1,rfl,hl1,hC1⟩:=Kd.S_reads hS1
 have HC1:=Aside0.mk hC1
 have HL1:=Aside0.mk hl1
 clear hC1 hl1 hS1
 go_wp2_with fail
 refine (zAS.calls 9 7 0 0 ⟨#[97]⟩ none 0 [] _ 1 [⟨shT1,0⟩] shT2 1 _ (Kd.C_nil _ _) (Nat.le_refl _) ?hn2 (Nat.le_refl _) sh2).mono ?_
 case hn2 => have:=nodeC _ A1 c1 shT1 0 (Kd.C_alloc HC1.out (.cells #[.slice A1 shT1.length c1,.int .i64 0] 30)) HL1.out; simpa using this
 rintro e w2 ⟨v2,rfl,hS2,hb2⟩
 obtain ⟨A2,c2,rfl,hl2,hC2⟩:=Kd.S_reads hS2
 have HC2:=Aside0.mk hC2
 have HL2:=Aside0.mk hl2
 clear hC2 hl2 hS2
 go_wp2_with fail
 refine (zAS.calls 9 6 0 0 ⟨#[]⟩ none 0 [] _ 1 [⟨shT2,1⟩] shT3 2 _ (Kd.C_nil _ _) (Nat.le_refl _) ?hn3 (Nat.le_refl _) sh3).mono ?_
 case hn3 => have:=nodeC _ A2 c2 shT2 1 (Kd.C_alloc HC2.out (.cells #[.slice A2 shT2.length c2,.int .i64 1] 30)) HL2.out; simpa using this
 rintro e w3 ⟨v3,rfl,hS3,hb3⟩
 obtain ⟨A3,c3,rfl,hl3,hC3⟩:=Kd.S_reads hS3
 have HC3:=Aside0.mk hC3
 have HL3:=Aside0.mk hl3
 clear hC3 hl3 hS3
 have hz3 : w2.heap.size < w3.heap.size:=by have:=hb3.size; simp at this; omega
 have ha0 : w3.cell? ⟨w2.heap.size,0,none⟩ = some (.slice A2 shT2.length c2):=(hb3.cell (p:=⟨w2.heap.size,0,none⟩) (by simp; omega)).trans (by go_simp)
 have ha1 : w3.cell? ⟨w2.heap.size,1,none⟩ = some (.int .i64 1):=(hb3.cell (p:=⟨w2.heap.size,1,none⟩) (by simp; omega)).trans (by go_simp)
 have hC23 : Kd.C k24 w3 A2 shT2.length shT2:=Kd.C_below (Kd.C_alloc (Kd.C_alloc HC2.out _) _) hb3
 obtain ⟨ad,A4,c4,e,k0,k1,k2,k3,k4,hl4,hC4⟩:=at_T24 hC23 1 (by omega) (by decide)
 cases e
 have hlt4:=World.block_lt_of_cell? w3 _ k4
 have k4' : w3.cell? ⟨ad.block,ad.off + 5 + 4,none⟩ = some (.slice A4 (rd_T24 shT2 1).f4.length c4):=by
  rw [show ad.add (Int.toNat 1 * 5) = ⟨ad.block,ad.off + 5,none⟩ from by unfold Addr.add; rfl] at k4
  exact k4
 rw [show ad.add (Int.toNat 1 * 5) = ⟨ad.block,ad.off + 5,none⟩ from by unfold Addr.add; rfl] at hlt4
 have hlt4' : ad.block < w3.heap.size:=hlt4
 have HC4:=Aside0.mk hC4
 have HL4:=Aside0.mk hl4
 have HB3:=Aside0.mk hb3
 clear hC4 hl4 hC23 hb3 k0 k1 k2 k3 k4 hlt4
 have e2 : shT2.length = 2:=rfl
 go_wp2_with fail
 refine (zAB.calls 9 A4 c4 (rd_T24 shT2 1).f4 _ 1 [0] true _ (Kd.C_alloc (Kd.C_alloc HC4.out _) _) HL4.out ?hs1 (Nat.le_refl _) sh6).mono ?_
 case hs1 =>
  have:=C_lit (Kd.int .i64) (w3.alloc (.cells #[.slice A3 shT3.length c3,.int .i64 2] 30)) 3 [0] [.int .i64 0] (Reps.one rfl (Reps.none _ _)) (by simp)
  simpa using this
 rintro e w4 ⟨rfl,⟨n4,rfl⟩⟩
 have hb0 : ((w3.alloc (.cells #[.slice A3 shT3.length c3,.int .i64 2] 30)).alloc (.cells #[.int .i64 0] 3)).cell? ⟨w3.heap.size,0,none⟩ = some (.slice A3 shT3.length c3):=by go_simp
 go_wp2_with fail
 refine (zAI.calls 9 A3 c3 shT3 2 3 _ (Kd.C_drewN (Kd.C_alloc (Kd.C_alloc HC3.out _) _) _) HL3.out sh4).mono ?_
 rintro e w5 ⟨rfl,hb5⟩
 have hz5 : w3.heap.size + 1 < w5.heap.size:=by have:=hb5.size; simp at this; omega
 have hc0 : w5.cell? ⟨w3.heap.size,0,none⟩ = some (.slice A3 shT3.length c3):=(hb5.cell (p:=⟨w3.heap.size,0,none⟩) (by simp; omega)).trans (by go_simp)
 have hc1 : w5.cell? ⟨w3.heap.size,1,none⟩ = some (.int .i64 2):=(hb5.cell (p:=⟨w3.heap.size,1,none⟩) (by simp; omega)).trans (by go_simp)
 have HC5:=Aside0.mk (Kd.C_below (Kd.C_drewN (Kd.C_alloc (Kd.C_alloc HC3.out (.cells #[.slice A3 shT3.length c3,.int .i64 2] 30)) (.cells #[.int .i64 0] 3)) n4) hb5)
 go_wp2_with fail
 refine (zAF.calls 9 A3 c3 shT3 2 [1,2,-1] _ HC5.out HL3.out sh5).mono ?_
 rintro e w6 ⟨v6,rfl,hR6,hb6⟩
 obtain ⟨A6,c6,rfl,hl6,hC6⟩:=Kd.R_reads hR6
 have HC6:=Aside0.mk hC6
 have HL6:=Aside0.mk hl6
 clear hC6 hl6 hR6
 go_wp2_with fail
 refine (zAB.calls 9 A6 c6 [1,2,-1] _ 3 [1,2,-1] true _ (Kd.C_alloc HC6.out _) HL6.out ?hs2 (Nat.le_refl _) sh7).mono ?_
 case hs2 =>
  have:=C_lit (Kd.int .i64) w6 3 [1,2,-1] [.int .i64 1,.int .i64 2,.int .i64 (-1)] (Reps.one rfl (Reps.one rfl (Reps.one rfl (Reps.none _ _)))) (by simp)
  simpa using this
 rintro e w7 ⟨rfl,⟨n7,rfl⟩⟩
 go_wp2
 go_ret
 refine ⟨rfl,zAc ?_ _⟩
 have q1:=hb1
 have q2 : Below w.heap.size w w2:=((q1.alloc q1.size _).alloc (by have:=q1.size; simp; omega) _).trans (hb2.mono (by have:=q1.size; simp; omega))
 have q3 : Below w.heap.size w w3:=((q2.alloc q2.size _).alloc (by have:=q2.size; simp; omega) _).trans (HB3.out.mono (by have:=q2.size; simp; omega))
 have q5 : Below w.heap.size w w5:=(zAc ((q3.alloc q3.size _).alloc (by have:=q3.size; simp; omega) _) _).trans (hb5.mono (by have:=q3.size; simp; omega))
 have q6 : Below w.heap.size w w6:=q5.trans (hb6.mono q5.size)
 exact q6.alloc q6.size _
theorem shown_calls (w : World) : Calls Try.prog 8 #[] w fun e w' => e = .returned (.bool true) ∧ Below w.heap.size w w':=zBC.calls true w rfl
structure TW (w W : World) (A : Option Addr) (c : Nat) (l : List S24) (root : Int) : Prop where
 z : w.heap.size < W.heap.size
 t0 : W.cell? ⟨w.heap.size,0,none⟩ = some (.slice A l.length c)
 t1 : W.cell? ⟨w.heap.size,1,none⟩ = some (.int .i64 root)
 C : Kd.C k24 W A l.length l
 below : Below w.heap.size w W
theorem TW.new {w : World} {A : Option Addr} {c : Nat} {l : List S24} (root : Int) (h : Kd.C k24 w A l.length l) : TW w (w.alloc (.cells #[.slice A l.length c,.int .i64 root] 30)) A c l root :=
 ⟨by simp,by go_simp,by go_simp,Kd.C_alloc h _,(Below.refl _ _).alloc (Nat.le_refl _) _⟩
theorem TW.step {w W W' : World} {A : Option Addr} {c : Nat} {l : List S24} {root : Int} (h : TW w W A c l root) (hb : Below W.heap.size W W') : TW w W' A c l root :=
 ⟨Nat.lt_of_lt_of_le h.z hb.size,(hb.cell (p:=⟨w.heap.size,0,none⟩) h.z).trans h.t0,(hb.cell (p:=⟨w.heap.size,1,none⟩) h.z).trans h.t1,Kd.C_below h.C hb,h.below.trans (hb.mono (Nat.le_of_lt h.z))⟩
theorem TW.alloc {w W : World} {A : Option Addr} {c : Nat} {l : List S24} {root : Int} (h : TW w W A c l root) (o : Obj) : TW w (W.alloc o) A c l root:=h.step ((Below.refl _ _).alloc (Nat.le_refl _) _)
theorem TW.drewN {w W : World} {A : Option Addr} {c : Nat} {l : List S24} {root : Int} (h : TW w W A c l root) (n : Nat) : TW w (W.drewN n) A c l root:=h.step (zAc (Below.refl _ _) _)
theorem parents_no (l : List S24) (r : Int) (k : Nat) (h : zAJ.f l r = some false) : zAF.f k l r = some []:=by
 unfold zAF.f
 rw [h]
 rfl
end Go.Proofs.Ytpggidmpkhmijaa.P
