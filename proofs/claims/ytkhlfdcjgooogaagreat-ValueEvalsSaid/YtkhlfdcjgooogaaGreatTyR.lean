import Derived.Test.YtkhlfdcjgooogaaGreatHsizes
import Derived.Test.YtkhlfdcjgooogaaGreatTyQ
set_option maxRecDepth 100000
set_option maxHeartbeats 16000000
set_option linter.unusedVariables false
set_option linter.unusedSimpArgs false
set_option linter.unusedSectionVars false
namespace Go.Proofs.YtkhlfdcjgooogaaGreat.P
open Go.RowKit Go.Proofs.YtkhlfdcjgooogaaGreatW.PrintWords
inductive RT where
 | node (x : S66) (kids : List RT) : RT
mutual
def RT.size : RT → Nat
 | .node _ ks => RT.sizes ks + 1
def RT.sizes : List RT → Nat
 | [] => 0
 | t :: ts => RT.size t + RT.sizes ts
end
def RT.roots (o : Nat) : List RT → List Int
 | [] => []
 | t :: ts => ((o : Int) + t.size - 1) :: RT.roots (o + t.size) ts
mutual
def RT.flat (o : Nat) : RT → List S66
 | .node x ks => RT.flats o ks ++ [{ x with f4:=RT.roots o ks }]
def RT.flats (o : Nat) : List RT → List S66
 | [] => []
 | t :: ts => RT.flat o t ++ RT.flats (o + RT.size t) ts
end
mutual
def RT.szs : RT → List Int
 | .node _ ks => RT.szss ks ++ [(RT.sizes ks : Int) + 1]
def RT.szss : List RT → List Int
 | [] => []
 | t :: ts => RT.szs t ++ RT.szss ts
end
mutual
def RT.depth : RT → Nat
 | .node _ ks => RT.depths ks + 1
def RT.depths : List RT → Nat
 | [] => 0
 | t :: ts => max (RT.depth t) (RT.depths ts)
end
theorem RT.size_pos : ∀ t : RT,0 < t.size
 | .node _ ks => by simp [RT.size]
mutual
theorem RT.flat_len (o : Nat) : ∀ t : RT,(RT.flat o t).length = t.size
 | .node x ks => by simp [RT.flat,RT.size,RT.flats_len o ks]
theorem RT.flats_len (o : Nat) : ∀ ts : List RT,(RT.flats o ts).length = RT.sizes ts
 | [] => rfl
 | t :: ts => by simp [RT.flats,RT.sizes,RT.flat_len o t,RT.flats_len (o + t.size) ts]
end
mutual
theorem RT.szs_len : ∀ t : RT,t.szs.length = t.size
 | .node x ks => by simp [RT.szs,RT.size,RT.szss_len ks]
theorem RT.szss_len : ∀ ts : List RT,(RT.szss ts).length = RT.sizes ts
 | [] => rfl
 | t :: ts => by simp [RT.szss,RT.sizes,RT.szs_len t,RT.szss_len ts]
end
theorem RT.roots_len (o : Nat) : ∀ ts : List RT,(RT.roots o ts).length = ts.length
 | [] => rfl
 | t :: ts => by simp [RT.roots,RT.roots_len (o + t.size) ts]
theorem RT.sizes_append : ∀ (a b : List RT),RT.sizes (a ++ b) = RT.sizes a + RT.sizes b
 | [],b => by simp [RT.sizes]
 | t :: ts,b => by simp [RT.sizes,RT.sizes_append ts b]; omega
theorem zBK (a b : List Int) (i : Nat) (h : i < a.length) : rd (a ++ b) (i : Int) = rd a (i : Int):=by
 unfold rd
 rw [List.getD_eq_getElem?_getD,List.getD_eq_getElem?_getD]
 simp [List.getElem?_append_left h]
theorem zBl (a b : List Int) (i : Nat) : rd (a ++ b) ((a.length + i : Nat) : Int) = rd b (i : Int):=by
 unfold rd
 rw [Int.toNat_natCast,Int.toNat_natCast,List.getD_eq_getElem?_getD,List.getD_eq_getElem?_getD,List.getElem?_append_right (by omega),Nat.add_sub_cancel_left]
theorem RT.szs_last (t : RT) : rd t.szs ((t.size - 1 : Nat) : Int) = t.size:=by
 cases t with
 | node x ks =>
  have : rd (RT.szss ks ++ [(RT.sizes ks : Int) + 1]) ((((RT.szss ks).length + 0 : Nat)) : Int) = (RT.sizes ks : Int) + 1:=by rw [zBl]; rfl
  simp only [RT.szs,RT.size,Nat.add_sub_cancel]
  rw [RT.szss_len,Nat.add_zero] at this
  rw [this]
  omega
theorem inner_roots : ∀ (ts : List RT) (pre z tail : List Int),z = pre ++ RT.szss ts ++ tail →
  ∀ (s : Int) (ks : List Int),szInner z ((RT.roots pre.length ts).reverse ++ ks) s ((pre.length : Int) + RT.sizes ts - 1) = szInner z ks (s + RT.sizes ts) ((pre.length : Int) - 1)
 | [],pre,z,tail,hz,s,ks => by simp [RT.roots,RT.sizes]
 | t :: ts,pre,z,tail,hz,s,ks => by
  have hp:=RT.size_pos t
  have ih:=inner_roots ts (pre ++ t.szs) z tail (by rw [hz]; simp [RT.szss]) s ((((pre.length : Int) + t.size - 1)) :: ks)
  rw [List.length_append,RT.szs_len] at ih
  rw [RT.roots,RT.sizes,List.reverse_cons,List.append_assoc,List.singleton_append]
  rw [show ((pre.length : Int) + ((t.size + RT.sizes ts : Nat) : Int) - 1) = (((pre.length + t.size : Nat) : Int) + (RT.sizes ts : Int) - 1) from by omega,ih]
  have hr : rd z ((pre.length : Int) + t.size - 1) = t.size:=by
   rw [hz,RT.szss,show ((pre.length : Int) + t.size - 1) = ((pre.length + (t.size - 1) : Nat) : Int) from by omega,List.append_assoc,zBl,List.append_assoc,zBK _ _ _ (by rw [RT.szs_len]; omega),RT.szs_last]
  simp only [szInner]
  rw [if_pos ⟨by omega,by omega⟩,hr]
  congr 1 <;> omega
mutual
theorem outer_flat : ∀ (t : RT) (out : List Int) (rest : List S66),szOuter (RT.flat out.length t ++ rest) out = szOuter rest (out ++ t.szs)
 | .node x ks,out,rest => by
  have h:=outer_flats ks out ({ x with f4:=RT.roots out.length ks } :: rest)
  rw [RT.flat,List.append_assoc,List.singleton_append,h,szOuter]
  have hi:=inner_roots ks out (out ++ RT.szss ks) [] (by simp) 1 []
  rw [List.append_nil] at hi
  rw [show (((out ++ RT.szss ks).length : Int) - 1) = ((out.length : Int) + RT.sizes ks - 1) from by rw [List.length_append,RT.szss_len]; omega,hi]
  simp only [szInner,RT.szs,List.append_assoc]
  rw [show (1 : Int) + RT.sizes ks = (RT.sizes ks : Int) + 1 from by omega]
theorem outer_flats : ∀ (ts : List RT) (out : List Int) (rest : List S66),szOuter (RT.flats out.length ts ++ rest) out = szOuter rest (out ++ RT.szss ts)
 | [],out,rest => by simp [RT.flats,RT.szss]
 | t :: ts,out,rest => by
  have h2:=outer_flats ts (out ++ t.szs) rest
  rw [List.length_append,RT.szs_len] at h2
  rw [RT.flats,List.append_assoc,outer_flat t out,h2,RT.szss,List.append_assoc]
end
def AtT (ns : List S66) (o : Nat) (t : RT) : Prop:=(ns.drop o).take t.size = RT.flat o t
def AtF (ns : List S66) (o : Nat) (ts : List RT) : Prop:=(ns.drop o).take (RT.sizes ts) = RT.flats o ts
theorem AtT.le {ns : List S66} {o : Nat} {t : RT} (h : AtT ns o t) : o + t.size ≤ ns.length:=by
 have h1:=congrArg List.length h
 have:=RT.size_pos t
 rw [List.length_take,List.length_drop,RT.flat_len] at h1
 omega
theorem AtF.le {ns : List S66} {o : Nat} {ts : List RT} (h : AtF ns o ts) (ho : o ≤ ns.length) : o + RT.sizes ts ≤ ns.length:=by
 have h1:=congrArg List.length h
 rw [List.length_take,List.length_drop,RT.flats_len] at h1
 omega
theorem AtF.nil (ns : List S66) (o : Nat) : AtF ns o []:=by simp [AtF,RT.sizes,RT.flats]
theorem AtF.cons {ns : List S66} {o : Nat} {t : RT} {ts : List RT} (h : AtT ns o t) (k : AtF ns (o + t.size) ts) : AtF ns o (t :: ts):=by
 unfold AtF at k ⊢
 rw [RT.sizes,List.take_add,RT.flats,h,List.drop_drop,k]
theorem AtT.node {ns : List S66} {o : Nat} {x : S66} {ks : List RT} (h : AtF ns o ks) (hl : o + RT.sizes ks < ns.length) (hx : ns[o + RT.sizes ks] = { x with f4:=RT.roots o ks }) : AtT ns o (.node x ks):=by
 unfold AtT
 rw [RT.size,List.take_add,RT.flat,h,List.drop_drop,List.drop_eq_getElem_cons hl,hx]
 rfl
theorem AtT.kids {ns : List S66} {o : Nat} {x : S66} {ks : List RT} (h : AtT ns o (.node x ks)) : AtF ns o ks ∧ ∃ hl : o + RT.sizes ks < ns.length,ns[o + RT.sizes ks] = { x with f4:=RT.roots o ks }:=by
 have hle:=h.le
 rw [RT.size] at hle
 unfold AtT at h
 rw [RT.size,List.take_add,RT.flat,List.drop_drop,List.drop_eq_getElem_cons (by omega : o + RT.sizes ks < ns.length)] at h
 have h2:=List.append_inj h (by rw [List.length_take,List.length_drop,RT.flats_len]; omega)
 refine ⟨h2.1,by omega,?_⟩
 have:=h2.2
 rw [List.take_succ_cons,List.take_zero] at this
 exact (List.cons.inj this).1
theorem AtF.head {ns : List S66} {o : Nat} {t : RT} {ts : List RT} (h : AtF ns o (t :: ts)) (ho : o ≤ ns.length) : AtT ns o t ∧ AtF ns (o + t.size) ts:=by
 have hle:=h.le ho
 rw [RT.sizes] at hle
 unfold AtF at h
 rw [RT.sizes,List.take_add,RT.flats,List.drop_drop] at h
 have h2:=List.append_inj h (by rw [List.length_take,List.length_drop,RT.flat_len]; omega)
 exact ⟨h2.1,h2.2⟩
theorem zCF : ∀ (ns : List S66) (acc out : List Int),szOuter ns acc = some out → ∃ suf,out = acc ++ suf ∧ suf.length = ns.length ∧
  ∀ (i : Nat) (h : i < ns.length),szInner (out.take (acc.length + i)) ns[i].f4.reverse 1 (((acc.length + i : Nat) : Int) - 1) = some (rd out ((acc.length + i : Nat) : Int))
 | [],acc,out,h => by
  simp only [szOuter,Option.some.injEq] at h
  exact ⟨[],by simp [h],rfl,fun i h => by simp at h⟩
 | n :: ns,acc,out,h => by
  rw [szOuter] at h
  split at h
  ·cases h
  ·rename_i s hs
   obtain ⟨suf,h1,h2,h3⟩:=zCF ns (acc ++ [s]) out h
   refine ⟨s :: suf,by simp [h1],by simp [h2],fun i hi => ?_⟩
   cases i with
   | zero =>
    have e1 : out.take (acc.length + 0) = acc:=by rw [h1,Nat.add_zero,List.append_assoc,List.take_left]
    have e2 : rd out ((acc.length + 0 : Nat) : Int) = s:=by rw [h1,List.append_assoc,zBl]; rfl
    rw [e1,e2]
    simpa using hs
   | succ i =>
    have:=h3 i (by simpa using hi)
    rw [List.length_append,List.length_singleton] at this
    rw [show acc.length + (i + 1) = acc.length + 1 + i from by omega]
    simpa using this
def OkAt (ns : List S66) (out : List Int) (k : Nat) : Prop:=∃ t : RT,(t.size : Int) = rd out k ∧ t.size ≤ k + 1 ∧ AtT ns (k + 1 - t.size) t
theorem build_inner (ns : List S66) (out : List Int) (i : Nat) (hi : i ≤ ns.length) (IH : ∀ k,k < i → OkAt ns out k) : ∀ (ks : List Int) (s r : Int) (ts : List RT) (o : Nat),o ≤ i → AtF ns o ts → s = 1 + RT.sizes ts →
  szInner out ks s ((o : Int) - 1) = some r → ∃ ts' o',o' ≤ o ∧ AtF ns o' ts' ∧ r = 1 + RT.sizes ts' ∧ RT.roots o' ts' = ks.reverse ++ RT.roots o ts ∧ o' + RT.sizes ts' = o + RT.sizes ts
 | [],s,r,ts,o,ho,hF,hs,h => by
  simp only [szInner,Option.some.injEq] at h
  exact ⟨ts,o,Nat.le_refl _,hF,by rw [← h,hs],by simp,rfl⟩
 | k :: ks,s,r,ts,o,ho,hF,hs,h => by
  simp only [szInner] at h
  split at h
  ·rename_i hc
   have hk : k = ((o - 1 : Nat) : Int):=by omega
   obtain ⟨t,ht1,ht2,ht3⟩:=IH (o - 1) (by omega)
   rw [← hk] at ht1
   rw [show o - 1 + 1 = o from by omega] at ht2 ht3
   have hF2 : AtF ns (o - t.size) (t :: ts):=AtF.cons ht3 (by rw [show o - t.size + t.size = o from by omega]; exact hF)
   rw [← ht1,show k - (t.size : Int) = ((o - t.size : Nat) : Int) - 1 from by omega] at h
   obtain ⟨ts',o',h1,h2,h3,h4,h5⟩:=build_inner ns out i hi IH ks _ r (t :: ts) (o - t.size) (by omega) hF2 (by rw [RT.sizes]; omega) h
   refine ⟨ts',o',by omega,h2,h3,?_,by rw [h5,RT.sizes]; omega⟩
   rw [h4,RT.roots,List.reverse_cons,List.append_assoc,List.singleton_append,show o - t.size + t.size = o from by omega,show ((o - t.size : Nat) : Int) + (t.size : Int) - 1 = k from by omega]
  ·cases h
theorem rd_take (l : List Int) (n i : Nat) (h : i < n) : rd (l.take n) (i : Int) = rd l (i : Int):=by
 unfold rd
 rw [Int.toNat_natCast,List.getD_eq_getElem?_getD,List.getD_eq_getElem?_getD,List.getElem?_take_of_lt h]
theorem okAt_of {ns : List S66} {out : List Int} (h : szOuter ns [] = some out) : ∀ i,i < ns.length → ∃ (x : S66) (ks : List RT) (o : Nat),x = ns.getD i z66 ∧ AtT ns o (.node x ks) ∧ o + RT.sizes ks = i ∧ ((RT.node x ks).size : Int) = rd out i:=by
 obtain ⟨suf,h1,h2,h3⟩:=zCF ns [] out h
 intro i
 induction i using Nat.strongRecOn with
 | _ i IH =>
  intro hi
  have hs:=h3 i hi
  simp only [List.length_nil,Nat.zero_add] at hs
  have IH' : ∀ k,k < i → OkAt ns (out.take i) k:=fun k hk => by
   obtain ⟨x,ks,o,_,hat,he,hz⟩:=IH k hk (by omega)
   refine ⟨.node x ks,by rw [rd_take _ _ _ hk]; exact hz,by rw [RT.size]; omega,?_⟩
   rw [RT.size,show k + 1 - (RT.sizes ks + 1) = o from by omega]
   exact hat
  obtain ⟨ts',o',q1,q2,q3,q4,q5⟩:=build_inner ns (out.take i) i (by omega) IH' _ _ _ [] i (Nat.le_refl _) (AtF.nil _ _) (by simp [RT.sizes]) hs
  simp only [RT.sizes,Nat.add_zero] at q5
  simp only [List.reverse_reverse,RT.roots,List.append_nil] at q4
  refine ⟨ns[i],ts',o',by simp [hi],AtT.node q2 (by omega) ?_,q5,by rw [RT.size,q3]; omega⟩
  simp only [q5,q4]
theorem flat_of {ns : List S66} {out : List Int} (h : szOuter ns [] = some out) (hn : 0 < ns.length) (hz : rd out ((ns.length - 1 : Nat) : Int) = ns.length) : ∃ t : RT,ns = RT.flat 0 t ∧ t.size = ns.length:=by
 obtain ⟨x,ks,o,_,hat,he,hsz⟩:=okAt_of h (ns.length - 1) (by omega)
 rw [hz] at hsz
 have hs : (RT.node x ks).size = ns.length:=by omega
 have ho : o = 0:=by rw [RT.size] at hs; omega
 subst ho
 refine ⟨.node x ks,?_,hs⟩
 unfold AtT at hat
 rw [List.drop_zero,hs,List.take_length] at hat
 exact hat
open Go.RowKit Go.Proofs.YtkhlfdcjgooogaaGreatW.PrintWords Go.Proofs.YtkhlfdcjgooogaaGreatW.PrintLast Go.Proofs.YtkhlfdcjgooogaaGreatW.PrintMore
theorem wrapS (i : Nat) (h : i < 9223372036854775807) : wrap64 ((i : Int) + 1) = ((i + 1 : Nat) : Int):=by unfold wrap64; omega
theorem rdT24 (l : List S66) (i : Nat) (h : i < l.length) : rd_T66 l (i : Int) = l[i]:=by simp [rd_T66,h]
theorem rdN (l : List Int) (i : Nat) (h : i < l.length) : rd l (i : Int) = l[i]:=by simp [rd,h]
theorem outer_whole (t : RT) : szOuter (RT.flat 0 t) [] = some t.szs:=by
 have h:=outer_flat t [] []
 simpa [szOuter] using h
theorem sizes_flat (t : RT) (h : t.size ≤ 4000) : zAT.f (RT.flat 0 t) = some (t.szs,true):=by
 unfold zAT.f
 rw [if_pos (by rw [RT.flat_len]; omega),outer_whole]
theorem zCi (t : RT) (h : t.size ≤ 4000) : zAE.f (RT.flat 0 t) ((t.size : Int) - 1) = some true:=by
 have hp:=RT.size_pos t
 have hl:=RT.flat_len 0 t
 unfold zAE.f
 rw [if_neg (by omega),if_neg (by omega),if_pos (by rw [hl]; unfold wrap64; omega),sizes_flat t h]
 simp only [Option.bind_some]
 rw [if_pos trivial,if_pos (by omega),if_pos (by rw [RT.szs_len]; omega)]
 have:=RT.szs_last t
 rw [show ((t.size : Int) - 1) = ((t.size - 1 : Nat) : Int) from by omega,this,RT.szs_len]
 simp
theorem zBo (l : List S66) (r : Int) : zAE.f l r = some false ∨ ∃ t : RT,l = RT.flat 0 t ∧ t.size ≤ 4000 ∧ r = (t.size : Int) - 1:=by
 unfold zAE.f
 by_cases h0 : (l.length : Int) = 0
 ·rw [if_pos h0]; exact .inl rfl
 rw [if_neg h0]
 by_cases h1 : (l.length : Int) > 4000
 ·rw [if_pos h1]; exact .inl rfl
 rw [if_neg h1]
 by_cases h2 : r = wrap64 ((l.length : Int) - 1)
 ·rw [if_pos h2]
  have hr : r = ((l.length - 1 : Nat) : Int):=by rw [h2]; unfold wrap64; omega
  cases ho : szOuter l [] with
  | none =>
   have hs : zAT.f l = some ([],false):=by unfold zAT.f; rw [if_pos (by omega),ho]
   rw [hs]; exact .inl rfl
  | some out =>
   have hs : zAT.f l = some (out,true):=by unfold zAT.f; rw [if_pos (by omega),ho]
   rw [hs]
   simp only [Option.bind_some]
   obtain ⟨suf,e1,e2,_⟩:=zCF l [] out ho
   have hol : out.length = l.length:=by rw [e1]; simpa using e2
   rw [if_pos trivial,if_pos (by omega),if_pos (by omega)]
   by_cases hz : rd out r = (out.length : Int)
   ·right
    obtain ⟨t,ht,htl⟩:=flat_of ho (by omega) (by rw [← hr,hz,hol])
    exact ⟨t,ht,by omega,by rw [hr,htl]; omega⟩
   ·left
    simp [hz]
 ·rw [if_neg h2]; exact .inl rfl
theorem mx_max (a b : Nat) : mx (a : Int) (b : Int) = ((max a b : Nat) : Int):=by
 unfold mx
 split <;> omega
theorem zCl {ns : List S66} {o : Nat} {x : S66} {ks : List RT} (h : AtT ns o (.node x ks)) : rd_T66 ns ((o : Int) + (RT.node x ks).size - 1) = { x with f4:=RT.roots o ks }:=by
 obtain ⟨_,hl,hx⟩:=h.kids
 rw [RT.size,show ((o : Int) + ((RT.sizes ks + 1 : Nat) : Int) - 1) = ((o + RT.sizes ks : Nat) : Int) from by omega,rdT24 ns _ hl,hx]
mutual
theorem deep_at (ns : List S66) (hn : ns.length < 1000000) : ∀ (t : RT) (o k : Nat),AtT ns o t → t.depth ≤ k → zAp.deep k ns ((o : Int) + t.size - 1) = some (t.depth : Int)
 | .node x ks,o,k,h,hk => by
  rw [RT.depth] at hk
  obtain ⟨k,rfl⟩ : ∃ m,k = m + 1:=⟨k - 1,by omega⟩
  have hle:=h.le
  have hd:=deep_kids ns hn ks o k h.kids.1 (by have:=h.le; omega) (by omega) 0
  rw [Nat.zero_max,show ((0 : Nat) : Int) = 0 from rfl] at hd
  have hdl : RT.depths ks < 1000000:=by
   have:=zBB ks
   rw [RT.size] at hle
   omega
  rw [zAp.deep,if_pos (by rw [RT.size]; omega),if_pos (by rw [RT.size] at hle ⊢; omega),zCl h]
  dsimp only
  rw [hd]
  simp only [Option.bind_some,RT.depth]
  congr 1
  unfold wrap64
  omega
theorem deep_kids (ns : List S66) (hn : ns.length < 1000000) : ∀ (ts : List RT) (o k : Nat),AtF ns o ts → o ≤ ns.length → RT.depths ts ≤ k → ∀ d : Nat,zAp.kids (zAp.deep k ns) (RT.roots o ts) (d : Int) = some ((max d (RT.depths ts) : Nat) : Int)
 | [],o,k,h,ho,hk,d => by simp [RT.roots,zAp.kids,RT.depths]
 | t :: ts,o,k,h,ho,hk,d => by
  obtain ⟨h1,h2⟩:=h.head ho
  rw [RT.depths] at hk
  have e1:=deep_at ns hn t o k h1 (by omega)
  rw [RT.roots,zAp.kids,e1]
  simp only [Option.bind_some]
  rw [mx_max,deep_kids ns hn ts (o + t.size) k h2 h1.le (by omega) (max d t.depth),RT.depths,Nat.max_assoc]
theorem zBU : ∀ t : RT,t.depth ≤ t.size
 | .node x ks => by have:=zBB ks; rw [RT.depth,RT.size]; omega
theorem zBB : ∀ ts : List RT,RT.depths ts ≤ RT.sizes ts
 | [] => by simp [RT.depths,RT.sizes]
 | t :: ts => by have h1:=zBU t; have h2:=zBB ts; rw [RT.depths,RT.sizes]; omega
end
theorem depth_ev (t : RT) (h : t.size ≤ 4000) : Ev (fun k => zAp.f k (RT.flat 0 t) ((t.size : Int) - 1)) (t.depth : Int):=by
 have hp:=RT.size_pos t
 refine ⟨t.depth,fun k hk => ?_⟩
 unfold zAp.f
 rw [zCi t h]
 simp only [Option.bind_some,if_true]
 have:=deep_at (RT.flat 0 t) (by rw [RT.flat_len]; omega) t 0 k (by unfold AtT; rw [List.drop_zero,← RT.flat_len 0 t,List.take_length]) hk
 rw [show ((0 : Nat) : Int) = 0 from rfl,Int.zero_add] at this
 exact this
structure SubAt (ns : List S66) (o p : Nat) (szs : List Int) (t : RT) (o' : Nat) : Prop where
 at_ : AtT ns o' t
 ge : o ≤ o'
 root : o' + t.size = o + p + 1
 size : (t.size : Int) = rd szs (p : Int)
mutual
theorem subAt (ns : List S66) : ∀ (T : RT) (o p : Nat),AtT ns o T → p < T.size → ∃ t o',SubAt ns o p T.szs t o' ∧ t.depth ≤ T.depth ∧ (p + 1 < T.size → t.depth < T.depth)
 | .node x ks,o,p,h,hp => by
  rw [RT.size] at hp
  by_cases hl : p < RT.sizes ks
  ·obtain ⟨t,o',h1,h2⟩:=subAts ns ks o p h.kids.1 (by have:=h.le; omega) hl
   refine ⟨t,o',⟨h1.at_,h1.ge,h1.root,?_⟩,by rw [RT.depth]; omega,fun _ => by rw [RT.depth]; omega⟩
   rw [RT.szs,zBK _ _ _ (by rw [RT.szss_len]; exact hl)]
   exact h1.size
  ·have hpe : p = RT.sizes ks:=by omega
   refine ⟨.node x ks,o,⟨h,Nat.le_refl _,by rw [RT.size,hpe]; omega,?_⟩,Nat.le_refl _,fun hc => by rw [RT.size] at hc; omega⟩
   have:=RT.szs_last (.node x ks)
   rw [RT.size,Nat.add_sub_cancel] at this
   rw [hpe,this,RT.size]
theorem subAts (ns : List S66) : ∀ (ts : List RT) (o p : Nat),AtF ns o ts → o ≤ ns.length → p < RT.sizes ts → ∃ t o',SubAt ns o p (RT.szss ts) t o' ∧ t.depth ≤ RT.depths ts
 | [],o,p,h,ho,hp => by simp [RT.sizes] at hp
 | t :: ts,o,p,h,ho,hp => by
  obtain ⟨h1,h2⟩:=h.head ho
  rw [RT.sizes] at hp
  by_cases hl : p < t.size
  ·obtain ⟨t',o',q1,q2,_⟩:=subAt ns t o p h1 hl
   refine ⟨t',o',⟨q1.at_,q1.ge,q1.root,?_⟩,by rw [RT.depths]; omega⟩
   rw [RT.szss,zBK _ _ _ (by rw [RT.szs_len]; exact hl)]
   exact q1.size
  ·obtain ⟨t',o',q1,q2⟩:=subAts ns ts (o + t.size) (p - t.size) h2 h1.le (by omega)
   refine ⟨t',o',⟨q1.at_,by have:=q1.ge; omega,by have:=q1.root; omega,?_⟩,by rw [RT.depths]; omega⟩
   rw [RT.szss,show (p : Int) = ((t.szs.length + (p - t.size) : Nat) : Int) from by rw [RT.szs_len]; omega,zBl]
   exact q1.size
end
theorem kids_le_sizes : ∀ ks : List RT,ks.length ≤ RT.sizes ks
 | [] => by simp [RT.sizes]
 | t :: ts => by have h1:=RT.size_pos t; have h2:=kids_le_sizes ts; rw [RT.sizes,List.length_cons]; omega
theorem flat_kids_le (T : RT) (hT : T.size ≤ 4000) : ∀ x ∈ RT.flat 0 T,x.f4.length ≤ 4000:=by
 intro x hx
 obtain ⟨i,hi,rfl⟩:=List.mem_iff_getElem.1 hx
 have hi' : i < T.size:=by rwa [RT.flat_len] at hi
 have hat : AtT (RT.flat 0 T) 0 T:=by unfold AtT; rw [List.drop_zero,← RT.flat_len 0 T,List.take_length]
 obtain ⟨t,o',hs,_⟩:=subAt (RT.flat 0 T) T 0 i hat hi'
 have hroot:=hs.root
 have hle:=hs.at_.le
 rw [RT.flat_len] at hle
 cases t with
 | node y ks =>
  obtain ⟨_,hl,hx⟩:=hs.at_.kids
  rw [RT.size] at hroot
  have he : o' + RT.sizes ks = i:=by omega
  simp only [he] at hx
  rw [hx]
  simp only [RT.roots_len]
  have:=kids_le_sizes ks
  rw [RT.size] at hle
  omega
def setK (i : Int) : List Int → List Int → List Int
 | acc,[] => acc
 | acc,k :: ks => setK i (acc.set k.toNat i) ks
def parF : List S66 → Nat → List Int → List Int
 | [],_,acc => acc
 | n :: ns,i,acc => parF ns (i + 1) (setK (i : Int) acc n.f4)
theorem zDl (i : Int) : ∀ (ks acc : List Int),(setK i acc ks).length = acc.length
 | [],acc => rfl
 | k :: ks,acc => by rw [setK,zDl i ks]; simp
theorem par_l1 (ns : List S66) (i : Nat) (hi : i < 1000000) (ks : List Int) (hk : ks.length < 1000000) (res : List Int) : ∀ (d j : Nat) (acc : List Int),j + d = ks.length → (∀ k ∈ ks,0 ≤ k ∧ k < (acc.length : Int)) →
  Ev (fun k => zAm.l0 k (setK (i : Int) acc (ks.drop j)) ns (ns.length : Int) ((i + 1 : Nat) : Int)) res →
  Ev (fun k => zAm.l1 k acc (i : Int) ns (ns.length : Int) (i : Int) ks (ks.length : Int) (j : Int)) res
 | 0,j,acc,hd,hb,h => by
  rw [List.drop_of_length_le (by omega),setK] at h
  exact Ev.step (fun k => by simp only [zAm.l1]; rw [if_neg (by omega),wrapS i (by omega)]) h
 | d + 1,j,acc,hd,hb,h => by
  have hj : j < ks.length:=by omega
  rw [List.drop_eq_getElem_cons hj,setK] at h
  have hkj:=hb ks[j] (List.getElem_mem hj)
  refine Ev.step (fun k => by simp only [zAm.l1]; rw [if_pos (by omega),if_pos (by omega),if_pos (by omega),rdN ks j hj,if_pos hkj.1,if_pos hkj.2,wrapS j (by omega)]) ?_
  exact par_l1 ns i hi ks hk res d (j + 1) _ (by omega) (fun k hk => by rw [List.length_set]; exact hb k hk) h
theorem par_l0 (ns : List S66) (hn : ns.length < 1000000) (N : Nat) (hk : ∀ x ∈ ns,x.f4.length < 1000000 ∧ ∀ k ∈ x.f4,0 ≤ k ∧ k < (N : Int)) : ∀ (d i : Nat) (acc : List Int),i + d = ns.length → acc.length = N →
  Ev (fun k => zAm.l0 k acc ns (ns.length : Int) (i : Int)) (parF (ns.drop i) i acc)
 | 0,i,acc,hd,ha => by
  rw [List.drop_of_length_le (by omega),parF]
  exact Ev.step (fun k => by simp only [zAm.l0]; rw [if_neg (by omega)]) (Ev.now _)
 | d + 1,i,acc,hd,ha => by
  have hi : i < ns.length:=by omega
  have hx:=hk ns[i] (List.getElem_mem hi)
  rw [List.drop_eq_getElem_cons hi,parF]
  refine Ev.step (fun k => by simp only [zAm.l0]; rw [if_pos (by omega),if_pos (by omega),if_pos (by omega),rdT24 ns i hi]) ?_
  refine par_l1 ns i (by omega) ns[i].f4 hx.1 _ ns[i].f4.length 0 acc (by omega) (fun k h => by rw [ha]; exact hx.2 k h) ?_
  rw [List.drop_zero]
  exact par_l0 ns hn N hk d (i + 1) _ (by omega) (by rw [zDl]; exact ha)
theorem rd_set (l : List Int) (k j : Nat) (v : Int) (hj : j < l.length) : rd (l.set k v) (j : Int) = if k = j then v else rd l (j : Int):=by
 rw [rdN _ j (by simpa using hj),rdN _ j hj,List.getElem_set]
theorem setK_get (i : Int) (j : Nat) : ∀ (ks acc : List Int),j < acc.length → (∀ k ∈ ks,0 ≤ k) → rd (setK i acc ks) (j : Int) = if (j : Int) ∈ ks then i else rd acc (j : Int)
 | [],acc,hj,h => by simp [setK]
 | k :: ks,acc,hj,h => by
  have h0:=h k (by simp)
  rw [setK,setK_get i j ks _ (by simpa using hj) (fun k' hk => h k' (by simp [hk])),rd_set _ _ _ _ hj]
  by_cases h1 : (j : Int) ∈ ks
  ·simp [h1]
  ·by_cases h2 : k.toNat = j
   ·have : k = (j : Int):=by omega
    simp [h1,this]
   ·have : (j : Int) ≠ k:=by omega
    simp [h1,h2,this]
def KidOf (ns : List S66) (j i : Nat) : Prop:=∃ h : i < ns.length,(j : Int) ∈ ns[i].f4
theorem zCS (ns : List S66) (init : List Int) (hk : ∀ x ∈ ns,∀ k ∈ x.f4,0 ≤ k) : ∀ (d i : Nat) (acc : List Int),i + d = ns.length → acc.length = init.length →
  (∀ j,j < init.length → (∃ i',i' < i ∧ KidOf ns j i' ∧ rd acc (j : Int) = (i' : Int)) ∨ ((∀ i',i' < i → ¬ KidOf ns j i') ∧ rd acc (j : Int) = rd init (j : Int))) →
  (parF (ns.drop i) i acc).length = init.length ∧ ∀ j,j < init.length → (∃ i',i' < ns.length ∧ KidOf ns j i' ∧ rd (parF (ns.drop i) i acc) (j : Int) = (i' : Int)) ∨ ((∀ i',i' < ns.length → ¬ KidOf ns j i') ∧ rd (parF (ns.drop i) i acc) (j : Int) = rd init (j : Int))
 | 0,i,acc,hd,ha,h => by
  have hi : i = ns.length:=by omega
  rw [List.drop_of_length_le (by omega),parF]
  subst hi
  exact ⟨ha,h⟩
 | d + 1,i,acc,hd,ha,h => by
  have hi : i < ns.length:=by omega
  rw [List.drop_eq_getElem_cons hi,parF]
  refine zCS ns init hk d (i + 1) _ (by omega) (by rw [zDl]; exact ha) (fun j hj => ?_)
  rw [setK_get _ _ _ _ (by omega) (hk _ (List.getElem_mem hi))]
  by_cases hm : (j : Int) ∈ ns[i].f4
  ·left
   exact ⟨i,by omega,⟨hi,hm⟩,by rw [if_pos hm]⟩
  ·rw [if_neg hm]
   rcases h j hj with ⟨i',h1,h2,h3⟩ | ⟨h1,h2⟩
   ·exact .inl ⟨i',by omega,h2,h3⟩
   ·right
    refine ⟨fun i' hi' hK => ?_,h2⟩
    rcases Nat.lt_succ_iff_lt_or_eq.1 hi' with h4 | rfl
    ·exact h1 i' h4 hK
    ·obtain ⟨_,h5⟩:=hK
     exact hm h5
theorem zCe : ∀ (ts : List RT) (o : Nat) (k : Int),k ∈ RT.roots o ts → (o : Int) ≤ k ∧ k < (o : Int) + RT.sizes ts
 | [],o,k,h => by simp [RT.roots] at h
 | t :: ts,o,k,h => by
  have hp:=RT.size_pos t
  rw [RT.roots] at h
  rw [RT.sizes]
  rcases List.mem_cons.1 h with rfl | h
  ·omega
  ·have:=zCe ts (o + t.size) k h; omega
mutual
theorem kid_of (ns : List S66) : ∀ (t : RT) (o j : Nat),AtT ns o t → o ≤ j → j + 1 < o + t.size → ∃ i,KidOf ns j i
 | .node x ks,o,j,h,h0,h1 => by
  rw [RT.size] at h1
  obtain ⟨hF,hl,hx⟩:=h.kids
  rcases kids_of ns ks o j hF (by omega) h0 (by omega) with h | h
  ·exact ⟨o + RT.sizes ks,hl,by rw [hx]; exact h⟩
  ·exact h
theorem kids_of (ns : List S66) : ∀ (ts : List RT) (o j : Nat),AtF ns o ts → o ≤ ns.length → o ≤ j → j < o + RT.sizes ts → (j : Int) ∈ RT.roots o ts ∨ ∃ i,KidOf ns j i
 | [],o,j,h,ho,h0,h1 => by rw [RT.sizes] at h1; omega
 | t :: ts,o,j,h,ho,h0,h1 => by
  obtain ⟨ht,hts⟩:=h.head ho
  have hp:=RT.size_pos t
  rw [RT.sizes] at h1
  rw [RT.roots]
  by_cases ha : j + 1 < o + t.size
  ·exact .inr (kid_of ns t o j ht h0 ha)
  ·by_cases hb : j + 1 = o + t.size
   ·left
    rw [show (j : Int) = (o : Int) + t.size - 1 from by omega]
    simp
   ·rcases kids_of ns ts (o + t.size) j hts ht.le (by omega) (by omega) with h | h
    ·exact .inl (List.mem_cons_of_mem _ h)
    ·exact .inr h
end
theorem node_at (T : RT) (i : Nat) (hi : i < T.size) : ∃ (x : S66) (ks : List RT) (o : Nat),rd_T66 (RT.flat 0 T) (i : Int) = { x with f4:=RT.roots o ks } ∧ o + RT.sizes ks = i:=by
 have hat : AtT (RT.flat 0 T) 0 T:=by unfold AtT; rw [List.drop_zero,← RT.flat_len 0 T,List.take_length]
 obtain ⟨t,o',hs,_⟩:=subAt (RT.flat 0 T) T 0 i hat hi
 have hroot:=hs.root
 have htp:=RT.size_pos t
 cases t with
 | node y ks =>
  have:=zCl hs.at_
  rw [RT.size] at hroot
  refine ⟨y,ks,o',?_,by omega⟩
  rw [← this,RT.size]
  congr 1
  omega
theorem tree_at (T : RT) (i : Nat) (hi : i < T.size) : ∃ (t : RT) (o : Nat),AtT (RT.flat 0 T) o t ∧ o + t.size = i + 1:=by
 have hat : AtT (RT.flat 0 T) 0 T:=by unfold AtT; rw [List.drop_zero,← RT.flat_len 0 T,List.take_length]
 obtain ⟨t,o',hs,_⟩:=subAt (RT.flat 0 T) T 0 i hat hi
 exact ⟨t,o',hs.at_,by have:=hs.root; omega⟩
theorem zBH (T : RT) (i : Nat) (hi : i < (RT.flat 0 T).length) : ∀ k ∈ (RT.flat 0 T)[i].f4,0 ≤ k ∧ k < (i : Int):=fun k hk => by
 obtain ⟨x,ks,o,e1,e2⟩:=node_at T i (by rw [RT.flat_len] at hi; exact hi)
 rw [rdT24 _ i hi] at e1
 rw [e1] at hk
 have:=zCe ks o k hk
 omega
theorem fit_flat (T : RT) (hT : T.size ≤ 4000) (hk : ∀ x ∈ RT.flat 0 T,x.f3.size ≤ 140737488351232) : Fit (RT.flat 0 T):=by
 have hfl:=RT.flat_len 0 T
 refine ⟨by omega,fun x hx => ?_⟩
 refine ⟨fun k hkm => ?_,flat_kids_le T hT x hx,hk x hx⟩
 obtain ⟨i,hi,rfl⟩:=List.mem_iff_getElem.1 hx
 have:=zBH T i hi k hkm
 omega
def parsOf (ns : List S66) : List Int:=parF ns 0 ((List.replicate ns.length (0 : Int)).set (ns.length - 1) (-1))
theorem pars_ev (T : RT) (hT : T.size ≤ 4000) : Ev (fun k => zAm.f k (RT.flat 0 T) ((T.size : Int) - 1)) (parsOf (RT.flat 0 T)):=by
 have hfl:=RT.flat_len 0 T
 have hp:=RT.size_pos T
 have hev : Ev (fun k => zAm.l0 k ((List.replicate (RT.flat 0 T).length (0 : Int)).set ((RT.flat 0 T).length - 1) (-1)) (RT.flat 0 T) ((RT.flat 0 T).length : Int) 0) (parsOf (RT.flat 0 T)):=by
  have:=par_l0 (RT.flat 0 T) (by omega) (RT.flat 0 T).length (fun x hx => ⟨by have:=flat_kids_le T hT x hx; omega,fun k hk => by
   obtain ⟨i,hi,rfl⟩:=List.mem_iff_getElem.1 hx
   have:=zBH T i hi k hk
   omega⟩) (RT.flat 0 T).length 0 ((List.replicate (RT.flat 0 T).length (0 : Int)).set ((RT.flat 0 T).length - 1) (-1)) (by omega) (by simp)
  simpa [parsOf] using this
 refine hev.congr (fun k => ?_)
 unfold zAm.f
 rw [zCi T hT]
 simp only [Option.bind_some,if_true]
 rw [if_pos (by omega),if_pos (by simp; omega),if_pos (by omega),if_pos (by simp; omega)]
 congr 2
 simp
 omega
end Go.Proofs.YtkhlfdcjgooogaaGreat.P
