import Derived.Test.YtpggidmpkhmijaaTreeParents
import Derived.Test.YtpggidmpkhmijaaPureP
import Derived.Test.YtpggidmpkhmijaaPf22
import Derived.Test.YtpggidmpkhmijaaPf24
import Derived.Test.YtpggidmpkhmijaaPf25
import Derived.Shelf.Small.Strs
import Derived.Shelf.Strings.Search1
import Derived.Shelf.Strings.Search2
import Derived.Shelf.Strings.Search3
import Derived.Shelf.LaysM
import Derived.Shelf.Strings.Shaped
import Derived.Test.YtpggidmpkhmijaaProg
import Derived.Test.YtpggidmpkhmijaaRose
import Derived.Lib.IndexAny
import Derived.Lib.Hide
import Derived.Outline
import Derived.BigQuiet
import Derived.LoopTactic
import Derived.WalkSmall
set_option linter.unusedVariables false
set_option linter.unusedSimpArgs false
namespace Go.Proofs.Ytpggidmpkhmijaa.P
open Go.RowKit Go.Proofs.YtpggidmpkhmijaaW.PrintWords Go.Proofs.YtpggidmpkhmijaaW.PrintLast Go.Proofs.YtpggidmpkhmijaaW.PrintMore
theorem tree_at (T : RT) (i : Nat) (hi : i < T.size) : ∃ (t : RT) (o : Nat),AtT (RT.flat 0 T) o t ∧ o + t.size = i + 1:=by
 have hat : AtT (RT.flat 0 T) 0 T:=by unfold AtT; rw [List.drop_zero,← RT.flat_len 0 T,List.take_length]
 obtain ⟨t,o',hs,_⟩:=subAt (RT.flat 0 T) T 0 i hat hi
 exact ⟨t,o',hs.at_,by have:=hs.root; omega⟩
theorem zBW (T : RT) (i : Nat) (hi : i < (RT.flat 0 T).length) : ∀ k ∈ (RT.flat 0 T)[i].f4,0 ≤ k ∧ k < (i : Int):=fun k hk => by
 obtain ⟨x,ks,o,e1,e2⟩:=node_at T i (by rw [RT.flat_len] at hi; exact hi)
 rw [rdT24 _ i hi] at e1
 rw [e1] at hk
 have:=zCt ks o k hk
 omega
def dpt (ns : List S24) (j : Int) : Int:=(zAI.deep 1000000 ns j).getD 0
theorem dpt_at {ns : List S24} (hn : ns.length < 1000000) {t : RT} {o : Nat} (h : AtT ns o t) : dpt ns ((o : Int) + t.size - 1) = (t.depth : Int):=by
 have:=h.le
 have:=zBM t
 unfold dpt
 rw [deep_at ns hn t o 1000000 h (by omega)]
 rfl
def mxs (D : Int → Int) : Int → List Int → Int
 | c,[] => c
 | c,k :: ks => mxs D (mx c (1 + D k)) ks
theorem mxs_roots (ns : List S24) (hn : ns.length < 1000000) : ∀ (ks : List RT) (o : Nat),AtF ns o ks → o ≤ ns.length → ∀ c : Nat,1 ≤ c → mxs (dpt ns) (c : Int) (RT.roots o ks) = ((max c (RT.depths ks + 1) : Nat) : Int)
 | [],o,h,ho,c,hc => by
  rw [RT.roots,mxs,RT.depths]
  omega
 | t :: ts,o,h,ho,c,hc => by
  obtain ⟨h1,h2⟩:=h.head ho
  rw [RT.roots,mxs,dpt_at hn h1,show (1 : Int) + (t.depth : Int) = ((t.depth + 1 : Nat) : Int) from by omega,mx_max,mxs_roots ns hn ts (o + t.size) h2 h1.le _ (by omega),RT.depths]
  omega
theorem rdep_l1 (ns : List S24) (r q : Int) (i : Nat) (hi : i < ns.length) (hn : ns.length < 1000000) (D : Int → Int) (hk : ns[i].f4.length < 1000000) : ∀ (e j : Nat) (dl : List Int),j + e = ns[i].f4.length → dl.length = ns.length →
  (∀ k ∈ ns[i].f4,0 ≤ k ∧ k < (i : Int) ∧ rd dl k = D k ∧ 0 ≤ D k ∧ D k < 2000000) →
  Ev (fun k => zAv.l0 k (dl.set i (mxs D (rd dl (i : Int)) (ns[i].f4.drop j))) ((i + 1 : Nat) : Int) ns r) q →
  Ev (fun k => zAv.l1 k dl (i : Int) (j : Int) ns r) q
 | 0,j,dl,he,hl,hb,h => by
  rw [List.drop_of_length_le (by omega),mxs,rdN dl i (by omega),List.set_getElem_self] at h
  exact Ev.step (fun k => by simp only [zAv.l1]; rw [if_pos (by omega),if_pos (by omega),rdT24 ns i hi,if_neg (by omega),wrapS i (by omega)]) h
 | e + 1,j,dl,he,hl,hb,h => by
  have hj : j < ns[i].f4.length:=by omega
  rw [List.drop_eq_getElem_cons hj,mxs] at h
  have hkj:=hb ns[i].f4[j] (List.getElem_mem hj)
  have hw : wrap64 (1 + rd dl ns[i].f4[j]) = 1 + D ns[i].f4[j]:=by rw [hkj.2.2.1,wrap64]; omega
  refine Ev.step (fun k => by simp only [zAv.l1]; rw [if_pos (by omega),if_pos (by omega),rdT24 ns i hi,if_pos (by omega),if_pos (by omega),if_pos (by omega),rdN _ j hj,if_pos hkj.1,if_pos (by omega),hw,wrapS j (by omega)]) ?_
  refine rdep_l1 ns r q i hi hn D hk e (j + 1) _ (by omega) (by simpa using hl) (fun k hkm => ?_) ?_
  ·have h0:=hb k hkm
   refine ⟨h0.1,h0.2.1,?_,h0.2.2.2⟩
   rw [← h0.2.2.1]
   obtain ⟨m,rfl⟩ : ∃ m : Nat,k = (m : Int):=⟨k.toNat,by omega⟩
   rw [rd_set _ _ _ _ (by omega),if_neg (by omega)]
  ·rw [Int.toNat_natCast,List.set_set,rd_set _ _ _ _ (by omega),if_pos rfl]
   exact h
theorem rdep_l0 (T : RT) (hT : T.size ≤ 4000) : ∀ (d i : Nat) (dl : List Int),i + d = T.size → dl.length = T.size → (∀ j : Nat,j < i → rd dl (j : Int) = dpt (RT.flat 0 T) (j : Int)) →
  Ev (fun k => zAv.l0 k dl (i : Int) (RT.flat 0 T) ((T.size : Int) - 1)) (T.depth : Int)
 | 0,i,dl,hd,hl,hb => by
  have hp:=RT.size_pos T
  have hfl:=RT.flat_len 0 T
  have hat : AtT (RT.flat 0 T) 0 T:=by unfold AtT; rw [List.drop_zero,← RT.flat_len 0 T,List.take_length]
  have h1:=dpt_at (by omega) hat
  have h2:=hb (T.size - 1) (by omega)
  rw [show (((0 : Nat) : Int) + (T.size : Int) - 1) = (T.size : Int) - 1 from by omega] at h1
  rw [show ((T.size - 1 : Nat) : Int) = (T.size : Int) - 1 from by omega,h1] at h2
  refine Ev.step (fun k => by simp only [zAv.l0]; rw [if_neg (by omega),if_pos (by omega),if_pos (by omega),h2]) (Ev.now _)
 | d + 1,i,dl,hd,hl,hb => by
  have hfl:=RT.flat_len 0 T
  have hi : i < (RT.flat 0 T).length:=by omega
  obtain ⟨t,o,hat,hsz⟩:=tree_at T i (by omega)
  have hkb:=zBW T i hi
  have hkl:=zBu T hT _ (List.getElem_mem hi)
  refine Ev.step (fun k => by simp only [zAv.l0]; rw [if_pos (by omega),if_pos (by omega),if_pos (by omega),Int.toNat_natCast]) ?_
  refine rdep_l1 (RT.flat 0 T) _ _ i hi (by omega) (dpt (RT.flat 0 T)) (by omega) _ 0 (dl.set i 1) (Nat.zero_add _) (by rw [List.length_set,hl,hfl]) (fun k hk => ?_) ?_
  ·have h0:=hkb k hk
   obtain ⟨m,rfl⟩ : ∃ m : Nat,k = (m : Int):=⟨k.toNat,by omega⟩
   obtain ⟨t2,o2,hat2,hsz2⟩:=tree_at T m (by omega)
   have h3:=dpt_at (by omega) hat2
   rw [show ((o2 : Int) + (t2.size : Int) - 1) = (m : Int) from by omega] at h3
   have h4:=zBM t2
   refine ⟨h0.1,h0.2,?_,by omega,by omega⟩
   rw [rd_set _ _ _ _ (by omega),if_neg (by omega)]
   exact hb m (by omega)
  ·rw [List.drop_zero,List.set_set,rd_set _ _ _ _ (by omega),if_pos rfl]
   have hv : mxs (dpt (RT.flat 0 T)) 1 (RT.flat 0 T)[i].f4 = dpt (RT.flat 0 T) (i : Int):=by
    cases t with
    | node x ks =>
     have h5:=dpt_at (by omega) hat
     have h6:=zCa hat
     have hle:=hat.le
     have h7:=mxs_roots (RT.flat 0 T) (by omega) ks o hat.kids.1 (by omega) 1 (Nat.le_refl _)
     rw [show ((o : Int) + ((RT.node x ks).size : Int) - 1) = (i : Int) from by omega] at h5 h6
     rw [rdT24 _ i hi] at h6
     rw [h5,h6]
     dsimp only
     rw [show (1 : Int) = ((1 : Nat) : Int) from rfl,h7,RT.depth]
     omega
   rw [hv]
   refine rdep_l0 T hT d (i + 1) _ (by omega) (by simpa using hl) fun j hj => ?_
   rw [rd_set _ _ _ _ (by omega)]
   by_cases hji : i = j
   ·rw [if_pos hji,hji]
   ·rw [if_neg hji]
    exact hb j (by omega)
theorem rdepth_ev (T : RT) (hT : T.size ≤ 4000) : Ev (fun k => zAv.f k (RT.flat 0 T) ((T.size : Int) - 1)) (T.depth : Int):=by
 have hfl:=RT.flat_len 0 T
 have hS:=zBp (RT.flat 0 T) (fun x hx => by have:=zBu T hT x hx; omega) ((T.size : Int) - 1) true (zBq T hT)
 refine Ev.bind hS (ev_iff rfl (ev_iff (by omega) (ev_iff (by omega) ?_)))
 refine rdep_l0 T hT T.size 0 _ (by omega) (by simp [hfl]) fun j hj => absurd hj (Nat.not_lt_zero _)
theorem rdepth_no (ns : List S24) (hk : ∀ x ∈ ns,x.f4.length < 1000000) (r : Int) (h : zAJ.f ns r = some false) : Ev (fun k => zAv.f k ns r) 0 :=
 Ev.bind (zBp ns hk r false h) (ev_ifn (by simp) (Ev.now _))
theorem rpar_l1 (ns : List S24) (r : Int) (i : Nat) (hi : i < ns.length) (hn : ns.length < 1000000) (hk : ns[i].f4.length < 1000000) (res : List Int) : ∀ (d j : Nat) (acc : List Int),j + d = ns[i].f4.length → (∀ k ∈ ns[i].f4,0 ≤ k ∧ k < (acc.length : Int)) →
  Ev (fun k => zAy.l0 k (setK (i : Int) acc (ns[i].f4.drop j)) ((i + 1 : Nat) : Int) ns r) res →
  Ev (fun k => zAy.l1 k acc (i : Int) (j : Int) ns r) res
 | 0,j,acc,hd,hb,h => by
  rw [List.drop_of_length_le (by omega),setK] at h
  exact Ev.step (fun k => by simp only [zAy.l1]; rw [if_pos (by omega),if_pos (by omega),rdT24 ns i hi,if_neg (by omega),wrapS i (by omega)]) h
 | d + 1,j,acc,hd,hb,h => by
  have hj : j < ns[i].f4.length:=by omega
  rw [List.drop_eq_getElem_cons hj,setK] at h
  have hkj:=hb ns[i].f4[j] (List.getElem_mem hj)
  refine Ev.step (fun k => by simp only [zAy.l1]; rw [if_pos (by omega),if_pos (by omega),rdT24 ns i hi,if_pos (by omega),if_pos (by omega),rdN _ j hj,if_pos hkj.1,if_pos hkj.2,wrapS j (by omega)]) ?_
  exact rpar_l1 ns r i hi hn hk res d (j + 1) _ (by omega) (fun k hk => by rw [List.length_set]; exact hb k hk) h
theorem rpar_l0 (ns : List S24) (r : Int) (hn : ns.length < 1000000) (N : Nat) (hk : ∀ x ∈ ns,x.f4.length < 1000000 ∧ ∀ k ∈ x.f4,0 ≤ k ∧ k < (N : Int)) : ∀ (d i : Nat) (acc : List Int),i + d = ns.length → acc.length = N →
  Ev (fun k => zAy.l0 k acc (i : Int) ns r) (parF (ns.drop i) i acc)
 | 0,i,acc,hd,ha => by
  rw [List.drop_of_length_le (by omega),parF]
  exact Ev.step (fun k => by simp only [zAy.l0]; rw [if_neg (by omega)]) (Ev.now _)
 | d + 1,i,acc,hd,ha => by
  have hi : i < ns.length:=by omega
  have hx:=hk ns[i] (List.getElem_mem hi)
  rw [List.drop_eq_getElem_cons hi,parF]
  refine Ev.step (fun k => by simp only [zAy.l0]; rw [if_pos (by omega)]) ?_
  refine rpar_l1 ns r i hi hn hx.1 _ ns[i].f4.length 0 acc (by omega) (fun k h => by rw [ha]; exact hx.2 k h) ?_
  rw [List.drop_zero]
  exact rpar_l0 ns r hn N hk d (i + 1) _ (by omega) (by rw [zCo]; exact ha)
theorem parF_len : ∀ (ns : List S24) (i : Nat) (acc : List Int),(parF ns i acc).length = acc.length
 | [],i,acc => rfl
 | x :: xs,i,acc => by rw [parF,parF_len xs,zCo]
theorem par_both (T : RT) (hT : T.size ≤ 4000) : ∃ ps : List Int,ps.length ≤ 4000 ∧ Ev (fun k => zAF.f k (RT.flat 0 T) ((T.size : Int) - 1)) ps ∧ Ev (fun k => zAy.f k (RT.flat 0 T) ((T.size : Int) - 1)) ps:=by
 have hp:=RT.size_pos T
 have hfl:=RT.flat_len 0 T
 have hkb : ∀ x ∈ RT.flat 0 T,x.f4.length < 1000000 ∧ ∀ k ∈ x.f4,0 ≤ k ∧ k < (T.size : Int):=fun x hx => by
  obtain ⟨i,hi,rfl⟩:=List.mem_iff_getElem.1 hx
  refine ⟨by have:=zBu T hT _ hx; omega,fun k hk => ?_⟩
  have:=zBW T i hi k hk
  omega
 have hlen0 : ((List.replicate T.size (0 : Int)).set (T.size - 1) (-1)).length = T.size:=by simp
 refine ⟨parF (RT.flat 0 T) 0 ((List.replicate T.size (0 : Int)).set (T.size - 1) (-1)),by rw [parF_len,hlen0]; exact hT,?_,?_⟩
 ·have H:=par_l0 (RT.flat 0 T) (by omega) T.size hkb T.size 0 ((List.replicate T.size (0 : Int)).set (T.size - 1) (-1)) (by omega) hlen0
  rw [List.drop_zero] at H
  refine H.congr fun k => ?_
  unfold zAF.f
  rw [zBq T hT]
  simp only [Option.bind_some]
  rw [if_pos trivial,if_pos (by omega),if_pos (by omega),if_pos (by omega),if_pos (by rw [List.length_replicate]; omega)]
  simp only [hfl,Int.toNat_natCast]
  rw [show ((T.size : Int) - 1).toNat = T.size - 1 from by omega]
  rfl
 ·have H:=rpar_l0 (RT.flat 0 T) ((T.size : Int) - 1) (by omega) T.size hkb T.size 0 ((List.replicate T.size (0 : Int)).set (T.size - 1) (-1)) (by omega) hlen0
  rw [List.drop_zero] at H
  have hS:=zBp (RT.flat 0 T) (fun x hx => (hkb x hx).1) ((T.size : Int) - 1) true (zBq T hT)
  refine Ev.bind hS (H.congr fun k => ?_)
  simp only [Option.bind_some]
  rw [if_pos trivial,if_pos (by omega),if_pos (by omega),if_pos (by omega),if_pos (by rw [List.length_replicate]; omega)]
  simp only [hfl,Int.toNat_natCast]
  rw [show ((T.size : Int) - 1).toNat = T.size - 1 from by omega]
  rfl
theorem rpar_no (ns : List S24) (hk : ∀ x ∈ ns,x.f4.length < 1000000) (r : Int) (h : zAJ.f ns r = some false) : Ev (fun k => zAy.f k ns r) [] :=
 Ev.bind (zBp ns hk r false h) (ev_ifn (by simp) (Ev.now _))
theorem rsub_l1 (p from_ r : Int) (ns : List S24) (x7 : List S24) (i : Nat) (hi : i < 1000000) (a b c : Int) (s : ByteArray) (kids : List Int) (hk : kids.length < 1000000) (hx : x7.length < 1000000) (q : List S24 × Int) : ∀ (e j : Nat) (x10 : List Int),j + e = kids.length → x10.length = j →
  Ev (fun k => zAx.l0 k p from_ (x7 ++ [(⟨a,b,c,s,x10 ++ shL (wrap64 (-from_)) (kids.drop j)⟩ : S24)]) ((i + 1 : Nat) : Int) ns r) q →
  Ev (fun k => zAx.l1 k p from_ x7 (i : Int) x10 (j : Int) ns r a b c s kids) q
 | 0,j,x10,he,hl,h => by
  rw [List.drop_of_length_le (by omega)] at h
  simp only [shL,List.map_nil,List.append_nil] at h
  exact Ev.step (fun k => by simp only [zAx.l1]; rw [if_neg (by omega),if_pos (by omega),wrapS i (by omega)]) h
 | e + 1,j,x10,he,hl,h => by
  have hj : j < kids.length:=by omega
  rw [List.drop_eq_getElem_cons hj] at h
  have hw : wrap64 (kids[j] - from_) = wrap64 (kids[j] + wrap64 (-from_)):=by unfold wrap64; omega
  refine Ev.step (fun k => by simp only [zAx.l1]; rw [if_pos (by omega),if_pos (by omega),if_pos (by omega),rdN kids j hj,hw,wrapS j (by omega)]) ?_
  refine rsub_l1 p from_ r ns x7 i hi a b c s kids hk hx q e (j + 1) _ (by omega) (by simp [hl]) ?_
  simpa only [shL,List.map_cons,List.append_assoc,List.singleton_append] using h
theorem rsub_l0 (p : Nat) (from_ r : Int) (ns : List S24) (hn : ns.length < 1000000) (hp : p < ns.length) (hk : ∀ x ∈ ns,x.f4.length < 1000000) : ∀ (d i : Nat) (acc : List S24),i + d = p + 1 → acc.length ≤ i →
  Ev (fun k => zAx.l0 k (p : Int) from_ acc (i : Int) ns r) (acc ++ ((ns.drop i).take d).map (shN (wrap64 (-from_))),wrap64 ((p : Int) - from_))
 | 0,i,acc,hd,ha => by
  rw [List.take_zero,List.map_nil,List.append_nil]
  exact Ev.step (fun k => by simp only [zAx.l0]; rw [if_neg (by omega)]) (Ev.now _)
 | d + 1,i,acc,hd,ha => by
  have hi : i < ns.length:=by omega
  refine Ev.step (fun k => by simp only [zAx.l0]; rw [if_pos (by omega),if_pos (by omega),if_pos (by omega),rdT24 ns i hi]) ?_
  refine rsub_l1 (p : Int) from_ r ns acc i (by omega) _ _ _ _ ns[i].f4 (hk _ (List.getElem_mem hi)) (by omega) _ ns[i].f4.length 0 [] (by omega) rfl ?_
  rw [List.drop_zero,List.nil_append,List.drop_eq_getElem_cons hi,List.take_succ_cons,List.map_cons]
  have H:=rsub_l0 p from_ r ns hn hp hk d (i + 1) (acc ++ [shN (wrap64 (-from_)) ns[i]]) (by omega) (by simp; omega)
  rw [List.append_assoc,List.singleton_append] at H
  exact H
theorem rsub_no (ns : List S24) (hk : ∀ x ∈ ns,x.f4.length < 1000000) (r p : Int) (h : zAJ.f ns r = some false ∨ (zAJ.f ns r = some true ∧ (p < 0 ∨ p ≥ (ns.length : Int)))) : Ev (fun k => zAx.f k ns r p) ([],0):=by
 have hj : Ev (fun k => zAx.j0 k p true ns r) ([],0):=Ev.step (fun k => by simp only [zAx.j0]; rw [if_pos trivial]) (Ev.now _)
 rcases h with h | ⟨h,hp⟩
 ·exact Ev.bind (zBp ns hk r false h) (ev_ifn (by simp) hj)
 ·refine Ev.bind (zBp ns hk r true h) (ev_iff rfl ?_)
  by_cases h0 : p < 0
  ·exact ev_iff h0 hj
  ·refine ev_ifn h0 ?_
   rw [show decide (p ≥ (ns.length : Int)) = true from by simp; omega]
   exact hj
theorem sub_both (ns : List S24) (hl : ns.length ≤ 4000) (hk : ∀ x ∈ ns,x.f4.length ≤ 4000) (r p : Int) : ∃ res : List S24 × Int,res.1.length ≤ 4000 ∧ (∀ x ∈ res.1,x.f4.length ≤ 4000) ∧ Ev (fun k => zAK.f k ns r p) res ∧ Ev (fun k => zAx.f k ns r p) res:=by
 have hk' : ∀ x ∈ ns,x.f4.length < 1000000:=fun x hx => by have:=hk x hx; omega
 rcases zBz ns r with h | ⟨T,hT,hT2,hr⟩
 ·exact ⟨([],0),by simp,by simp,sub_no ns r p (.inl h),rsub_no ns hk' r p (.inl h)⟩
 ·have hs : zAJ.f ns r = some true:=by rw [hT,hr]; exact zBq T hT2
  by_cases hp : p < 0 ∨ p ≥ (ns.length : Int)
  ·exact ⟨([],0),by simp,by simp,sub_no ns r p (.inr ⟨hs,hp⟩),rsub_no ns hk' r p (.inr ⟨hs,hp⟩)⟩
  ·have hfl:=RT.flat_len 0 T
   have hnl : ns.length = T.size:=by rw [hT,hfl]
   obtain ⟨m,rfl⟩ : ∃ m : Nat,p = (m : Int):=⟨p.toNat,by omega⟩
   have hat : AtT (RT.flat 0 T) 0 T:=by unfold AtT; rw [List.drop_zero,← RT.flat_len 0 T,List.take_length]
   obtain ⟨t,o',hsub,_⟩:=subAt (RT.flat 0 T) T 0 m hat (by omega)
   have hroot:=hsub.root
   have htl:=hsub.at_.le
   have htp:=RT.size_pos t
   refine ⟨(RT.flat 0 t,(t.size : Int) - 1),by rw [RT.flat_len]; omega,fun x hx => zBu t (by omega) x hx,?_,?_⟩
   ·rw [hT,hr]
    exact sub_ev T hT2 t o' m (by omega) hsub
   ·refine Ev.bind (zBp ns hk' r true hs) (ev_iff rfl (ev_ifn (by omega) ?_))
    rw [show decide ((m : Int) ≥ (ns.length : Int)) = false from decide_eq_false (by omega)]
    have hb:=beg_at (RT.flat 0 T) (by omega) t o' hsub.at_
    rw [show ((o' : Int) + (t.size : Int) - 1) = (m : Int) from by omega,← hT] at hb
    refine Ev.step (f:=fun k => (zAt.f k ns (m : Int)).bind fun t365 => zAx.l0 k (m : Int) t365 [] t365 ns r) (fun k => by simp only [zAx.j0]; rw [if_neg (by simp)]) (Ev.bind hb ?_)
    have H:=rsub_l0 m (o' : Int) r ns (by omega) (by omega) hk' t.size o' [] (by omega) (by simp)
    have e1 : (ns.drop o').take t.size = RT.flat o' t:=by rw [hT]; exact hsub.at_
    rw [e1,List.nil_append,zCj (wrap64 (-(o' : Int))) t o' 0 (by omega) (by omega) (by rw [zBj (by omega) (by omega)]; omega),zBj (by omega) (by omega),show ((m : Int) - (o' : Int)) = (t.size : Int) - 1 from by omega] at H
    exact H
end Go.Proofs.Ytpggidmpkhmijaa.P
namespace Go.Proofs
open Go.Shelf
def Try.lays137_ren : Go.Shelf.Ren:=⟨fun | 137 => 39 | 217 => 53 | 266 => 63 | n => n,fun | 9 => 9 | 5 => 5 | 3 => 3 | n => n,fun | n => n⟩
theorem Try.lays137 : Go.Proofs.Lays.n137 Try.prog Try.lays137_ren:={
 mixed:=by kernel_rfl
 f137:=Try.func39.trans (congrArg some (by kernel_rfl))
 f217:=Try.func53.trans (congrArg some (by kernel_rfl))
 f266:=Try.func63.trans (congrArg some (by kernel_rfl))
 t3:=Try.underlying3
 a3:=Try.isAgg3
 z3:=Try.sizeOf3
 v3:=Try.zeroValue3
 t5:=Try.underlying5
 a5:=Try.isAgg5
 z5:=Try.sizeOf5
 v5:=Try.zeroValue5
 t9:=Try.underlying9
 a9:=Try.isAgg9
 z9:=Try.sizeOf9
 v9:=Try.zeroValue9 }
open Go.RowKit in
theorem Try.strings_IndexByte (s : ByteArray) (c : Int) (w : World) :
  Calls Try.prog 39 #[.string s,.int .u8 c] w fun e w' => e = .returned (.int .i64 (Lib.indexByte s.data.toList c.toNat.toUInt8)) ∧ w' = w:=Any.strings_IndexByte Try.lays137 s c w
def Try.lays144_ren : Go.Shelf.Ren:=⟨fun | 144 => 40 | 143 => 54 | 219 => 64 | 217 => 53 | 225 => 69 | 224 => 70 | 267 => 71 | 266 => 63 | 314 => 72 | n => n,fun | 9 => 9 | 4 => 4 | 3 => 3 | 5 => 5 | 46 => 70 | 146 => 72 | 51 => 71 | n => n,fun | 1 => 0 | n => n⟩
theorem Try.lays144 : Go.Proofs.Lays.n144 Try.prog Try.lays144_ren:={
 mixed:=by kernel_rfl
 f143:=Try.func54.trans (congrArg some (by kernel_rfl))
 f144:=Try.func40.trans (congrArg some (by kernel_rfl))
 f217:=Try.func53.trans (congrArg some (by kernel_rfl))
 f219:=Try.func64.trans (congrArg some (by kernel_rfl))
 f224:=Try.func70.trans (congrArg some (by kernel_rfl))
 f225:=Try.func69.trans (congrArg some (by kernel_rfl))
 f266:=Try.func63.trans (congrArg some (by kernel_rfl))
 f267:=Try.func71.trans (congrArg some (by kernel_rfl))
 f314:=Try.func72.trans (congrArg some (by kernel_rfl))
 t3:=Try.underlying3
 a3:=Try.isAgg3
 z3:=Try.sizeOf3
 v3:=Try.zeroValue3
 t4:=Try.underlying4
 a4:=Try.isAgg4
 z4:=Try.sizeOf4
 v4:=Try.zeroValue4
 t5:=Try.underlying5
 a5:=Try.isAgg5
 z5:=Try.sizeOf5
 v5:=Try.zeroValue5
 t9:=Try.underlying9
 a9:=Try.isAgg9
 z9:=Try.sizeOf9
 v9:=Try.zeroValue9
 t46:=Try.underlying70
 a46:=Try.isAgg70
 z46:=Try.sizeOf70
 v46:=Try.zeroValue70
 t51:=Try.underlying71
 a51:=Try.isAgg71
 z51:=Try.sizeOf71
 v51:=Try.zeroValue71
 t146:=Try.underlying72
 a146:=Try.isAgg72
 z146:=Try.sizeOf72
 v146:=Try.zeroValue72
 g1:=by kernel_rfl }
open Go.RowKit Go.Lib in
theorem Try.strings_Contains (s sub : ByteArray) (m : Int) (w : World) (hs : s.size < 4294967281) (hm : w.cell? ⟨0,0,none⟩ = some (.int .i64 m)) :
  Calls Try.prog 40 #[.string s,.string sub] w fun e w' => e = .returned (.bool (Lib.contains s.data.toList sub.data.toList)) ∧ w' = w:=Any.strings_Contains Try.lays144 s sub m w hs hm
end Go.Proofs
namespace Go.Proofs.Ytpggidmpkhmijaa.P
open Go.RowKit Go.Proofs.YtpggidmpkhmijaaW.PrintWords Go.Proofs.YtpggidmpkhmijaaW.PrintLast Go.Proofs.YtpggidmpkhmijaaW.PrintMore
def hasB (sm : ByteArray) (c : UInt8) : Bool:=sm.data.toList.contains c
theorem byte_back (c : UInt8) : ((c.toNat : Int)).toNat.toUInt8 = c:=by
 rw [Int.toNat_natCast]
 exact UInt8.ofNat_toNat
theorem idx_any (sm : ByteArray) (c : UInt8) (w : World) : Calls Try.prog 39 #[.string sm,.int .u8 (c.toNat : Int)] w fun e w' => ∃ v : Int,e = .returned (.int .i64 v) ∧ Hid (decide (0 ≤ v) = hasB sm c) ∧ w = w' :=
 (Try.strings_IndexByte sm (c.toNat : Int) w).mono fun e w' ⟨he,hw⟩ => ⟨_,he,Lib.hid (by rw [byte_back,hasB,← Lib.contains_iff_indexByte]),hw.symm⟩
theorem zBA (s : ByteArray) : s.data.toList.length = s.size:=by rw [Array.length_toList]; rfl
theorem data_at (s : ByteArray) (i : Nat) (h : i < s.size) : s.data.toList[i]'(by rw [zBA]; exact h) = s[i]:=by simp [ByteArray.getElem_eq_getElem_data]
theorem drop_at (s : ByteArray) (i : Nat) (h : i < s.size) : s.data.toList.drop i = s[i] :: s.data.toList.drop (i + 1):=by
 rw [List.drop_eq_getElem_cons (by rw [zBA]; exact h),data_at s i h]
set_option maxRecDepth 100000 in
set_option maxHeartbeats 4000000 in
theorem not_any (sm : ByteArray) (c : UInt8) (gs : Nat) (b : Bool) (hb : hasB sm c = !b) (w : World) (hs : w.cell? ⟨gs,0,none⟩ = some (.string sm)) :
  Calls Try.prog 62 #[.int .u8 (c.toNat : Int),.pointer (some ⟨gs,0,none⟩)] w fun e w' => e = .returned (.bool b) ∧ w = w':=by
 have HB:=Lib.hid hb
 clear hb
 go_enter Try.func62,Try.ntmps62
 go_wp2_with fail
 refine (idx_any sm c _).mono ?_
 rintro e_ w1 ⟨v,rfl,HV,rfl⟩
 have t1 : decide (v < 0) = b:=by
  have h:=HV.out
  rw [HB.out] at h
  cases b <;> simp at h ⊢ <;> omega
 go_wp2_with fail
 go_ret
 exact ⟨rfl,rfl⟩
def onlyB (sm s : ByteArray) : Bool:=s.data.toList.all (hasB sm)
theorem take_at (s : ByteArray) (k : Nat) (h : k < s.size) : s.data.toList.take (k + 1) = s.data.toList.take k ++ [s[k]]:=by
 rw [List.take_succ_eq_append_getElem (by rw [zBA]; exact h),data_at s k h]
def BytesAt (w : World) (g : Nat) (s : ByteArray) : Prop:=∀ j (h : j < s.size),w.cell? ⟨g,j,none⟩ = some (.int .u8 (s[j].toNat : Int))
set_option maxRecDepth 100000 in
set_option maxHeartbeats 4000000 in
theorem find_any (sm s : ByteArray) (g c0 gs : Nat) (w : World) (hB : BytesAt w g s) (hs : w.cell? ⟨gs,0,none⟩ = some (.string sm)) (hsz : s.size ≤ 1000000) :
  Calls Try.prog 68 #[.slice (some ⟨g,0,none⟩) s.size c0,.func (.func 62) #[] #[.pointer (some ⟨gs,0,none⟩)]] w fun e w' => ∃ v : Int,e = .returned (.int .i64 v) ∧ Hid (decide (0 ≤ v) = !(onlyB sm s)) ∧ w = w':=by
 have HBY:=Lib.hid hB
 have hw0:=hs
 clear hB
 go_enter Try.func68,Try.ntmps68
 go_wp2_with fail
 go_loop [8] (fun k => ∃ k' : Nat,k = .int .i64 k' ∧ k' ≤ s.size ∧ Hid ((s.data.toList.take k').all (hasB sm) = true)) (fun k => s.size - (intOf k).toNat)
 case atStart => exact ⟨0,rfl,Nat.zero_le _,Lib.hid rfl⟩
 case round =>
  obtain ⟨k,rfl,hk,HA⟩:=hrel
  by_cases hlt : k < s.size
  ·have hc:=HBY.out k hlt
   cases hb : hasB sm s[k] with
   | true =>
    have HB:=Lib.hid hb
    clear hb
    go_wp2_with fail
    refine (not_any sm s[k] gs false (by rw [HB.out]; rfl) _ hs).mono ?_
    rintro e_ w1 ⟨rfl,rfl⟩
    go_wp2_with fail
    go_round
    case rel => exact ⟨k + 1,by norm_cast,by omega,Lib.hid (by rw [take_at s k hlt,List.all_append,HA.out,List.all_cons,HB.out]; rfl)⟩
    case measure => first | (simp [intOf]; done) | (simp [intOf]; omega)
   | false =>
    have HB:=Lib.hid hb
    clear hb
    go_wp2_with fail
    refine (not_any sm s[k] gs true (by rw [HB.out]; rfl) _ hs).mono ?_
    rintro e_ w1 ⟨rfl,rfl⟩
    go_wp2_with fail
    go_ret
    refine ⟨k,rfl,Lib.hid ?_,rfl⟩
    have h1 : onlyB sm s = false:=by
     unfold onlyB
     rw [List.all_eq_false]
     exact ⟨s[k],by rw [← data_at s k hlt]; exact List.getElem_mem _,by rw [HB.out]; simp⟩
    rw [h1]
    simp
  ·obtain rfl : k = s.size:=by omega
   have hall : onlyB sm s = true:=by
    unfold onlyB
    have h:=HA.out
    rwa [List.take_of_length_le (by rw [zBA]; exact Nat.le_refl _)] at h
   have HALL:=Lib.hid hall
   clear hall
   go_wp2_with fail
   go_ret
   exact ⟨-1,rfl,Lib.hid (by rw [HALL.out]; rfl),rfl⟩
set_option maxRecDepth 100000 in
set_option maxHeartbeats 4000000 in
theorem finds_any (sm s : ByteArray) (g c0 gs : Nat) (w : World) (hB : BytesAt w g s) (hs : w.cell? ⟨gs,0,none⟩ = some (.string sm)) (hsz : s.size ≤ 1000000) :
  Calls Try.prog 61 #[.slice (some ⟨g,0,none⟩) s.size c0,.func (.func 62) #[] #[.pointer (some ⟨gs,0,none⟩)]] w fun e w' => e = .returned (.bool (!(onlyB sm s))) ∧ w = w':=by
 have HBY:=Lib.hid hB
 have HS:=Lib.hid hs
 clear hB hs
 obtain ⟨r,hr⟩ : ∃ r,r = !(onlyB sm s):=⟨_,rfl⟩
 rw [← hr]
 have HR:=Lib.hid hr
 clear hr
 go_enter Try.func61,Try.ntmps61
 go_wp2_with fail
 refine (find_any sm s g c0 gs _ HBY.out HS.out hsz).mono ?_
 rintro e_ w1 ⟨v,rfl,HV,rfl⟩
 have t1 : decide (0 ≤ v) = r:=by rw [HV.out,HR.out]
 go_wp2_with fail
 go_ret
 exact ⟨rfl,rfl⟩
theorem bytes_below {w W : World} (h : Below w.heap.size w W) (e : TypeId) (s : ByteArray) : Below w.heap.size w (Lib.bytesWorld W e s) :=
 ⟨h.os,h.tape,h.output,by rw [Lib.bytesWorld_size]; have:=h.size; omega,fun b hb => (Lib.bytesWorld_at_old W e s b (by have:=h.size; omega)).trans (h.block b hb)⟩
theorem bytes_at (W : World) (g : Nat) (s : ByteArray) (hg : g = W.heap.size) : BytesAt (Lib.bytesWorld W 5 s) g s:=by
 subst hg
 intro j hj
 rw [Lib.bytesWorld_cell W 5 s j hj]
 have h1 : j < s.data.toList.length:=by rw [zBA]; exact hj
 simp only [List.getD_eq_getElem?_getD,List.getElem?_eq_getElem h1,Option.getD_some]
 rw [data_at s j hj]
set_option maxRecDepth 100000 in
set_option maxHeartbeats 4000000 in
theorem zCA (sm s : ByteArray) (hsz : s.size ≤ 1000000) (w : World) :
  Calls Try.prog 51 #[.string s,.string sm] w fun e w' => e = .returned (.bool (onlyB sm s)) ∧ Below w.heap.size w w':=by
 have hcv:=fun (W : World) => Lib.run_convert_string_bytes (P:=Try.prog) W 9 66 5 s Try.underlying9 Try.underlying66 Try.underlying5
 obtain ⟨r,hr⟩ : ∃ r,r = onlyB sm s:=⟨_,rfl⟩
 rw [← hr]
 have HR:=Lib.hid hr
 clear hr
 go_enter Try.func51,Try.ntmps51
 go_wp2_with fail
 refine (finds_any sm s (w.heap.size + 1) _ w.heap.size _ (bytes_at _ _ s (by simp)) ((Lib.bytesWorld_old _ 5 s _ (by simp)).trans ((zAf (heap_alloc_new w (.cells #[.string sm] 9)) 0).trans rfl)) hsz).mono ?_
 rintro e_ w1 ⟨rfl,rfl⟩
 rw [← HR.out]
 go_wp2_with fail
 go_ret
 exact ⟨by simp,bytes_below (zAg (Below.refl _ _) _) 5 s⟩
def Env (w : World) : Prop:=(∃ m,w.cell? ⟨0,0,none⟩ = some (.int .i64 m)) ∧ 1 ≤ w.heap.size
theorem Env.below {w w' : World} (h : Env w) {n : Nat} (hb : Below n w w') (hn : 1 ≤ n) : Env w':=by
 obtain ⟨⟨m,h0⟩,h4⟩:=h
 exact ⟨⟨m,(hb.cell (p:=⟨0,0,none⟩) (by show 0 < n; omega)).trans h0⟩,Nat.le_trans h4 hb.size⟩
theorem Env.six {w : World} (h : Env w) : 1 ≤ w.heap.size:=h.2
theorem contains_any (s sub : ByteArray) (hs : s.size < 4294967281) (w : World) (hE : Env w) : Calls Try.prog 40 #[.string s,.string sub] w fun e w' => e = .returned (.bool (Lib.contains s.data.toList sub.data.toList)) ∧ w = w':=by
 obtain ⟨m,hm⟩:=hE.1
 exact (Try.strings_Contains s sub m w hs hm).mono fun e w' ⟨he,hw⟩ => ⟨he,hw.symm⟩
theorem zBY (s : ByteArray) (h : s.size = 0) : s.toList = []:=by
 have e : s = ByteArray.empty:=by
  apply ByteArray.ext
  exact Array.eq_empty_of_size_eq_zero h
 rw [e]
 exact ByteArray.toList_empty
theorem zCf (a : ByteArray) (h : 0 < a.size) : a.toList ≠ []:=by
 unfold ByteArray.toList ByteArray.toList.loop
 rw [if_pos h]
 have : ∀ n i r,r ≠ [] → a.size - i = n → ByteArray.toList.loop a i r ≠ []:=by
  intro n
  induction n with
  | zero => intro i r hr hi; unfold ByteArray.toList.loop; rw [if_neg (by omega)]; simpa using hr
  | succ n ih => intro i r hr hi; unfold ByteArray.toList.loop; split; exact ih _ _ (by simp) (by omega); simpa using hr
 exact this _ _ _ (by simp) rfl
def keptText : ByteArray:=⟨#[32,118,97,114,32,112,114,111,99,32,105,110,116,32,98,111,111,108,32,97,114,114,32,102,117,110,32,105,110,32,111,117,116,32,105,102,32,101,108,115,101,32,119,104,105,108,101,32,99,97,108,108,32,114,101,116,117,114,110,32,116,104,114,111,119,32,116,114,121,32,99,97,116,99,104,32,110,101,119,32,108,101,110,32,116,114,117,101,32,102,97,108,115,101,32]⟩
def digitsT : ByteArray:=⟨#[48,49,50,51,52,53,54,55,56,57]⟩
def partsT : ByteArray:=⟨#[97,98,99,100,101,102,103,104,105,106,107,108,109,110,111,112,113,114,115,116,117,118,119,120,121,122,65,66,67,68,69,70,71,72,73,74,75,76,77,78,79,80,81,82,83,84,85,86,87,88,89,90,95,48,49,50,51,52,53,54,55,56,57]⟩
def spaced (s : ByteArray) : ByteArray:=⟨#[32]⟩ ++ s ++ ⟨#[32]⟩
def keptB (s : ByteArray) : Bool:=decide (s.size ≠ 0) && !hasB s 32 && Lib.contains keptText.data.toList (spaced s).data.toList
theorem idx_32 (s : ByteArray) (w : World) : Calls Try.prog 39 #[.string s,.int .u8 32] w fun e w' => ∃ v : Int,e = .returned (.int .i64 v) ∧ Hid (decide (v < 0) = !hasB s 32) ∧ w = w' :=
 (idx_any s 32 w).mono fun e w' ⟨v,he,hv,hw⟩ => ⟨v,he,Lib.hid (by
  rw [← hv.out,Bool.eq_iff_iff]; simp),hw⟩
theorem idx_not (sm : ByteArray) (c : UInt8) (w : World) : Calls Try.prog 39 #[.string sm,.int .u8 (c.toNat : Int)] w fun e w' => ∃ v : Int,e = .returned (.int .i64 v) ∧ Hid (decide (v < 0) = !hasB sm c) ∧ w = w' :=
 (idx_any sm c w).mono fun e w' ⟨v,he,hv,hw⟩ => ⟨v,he,Lib.hid (by
  rw [← hv.out,Bool.eq_iff_iff]; simp),hw⟩
set_option maxRecDepth 100000 in
set_option maxHeartbeats 4000000 in
theorem kept_is (s : ByteArray) (r : Bool) (hr : keptB s = r) (hsz : s.size ≤ 1000000) (w : World) (hE : Env w) :
  Calls Try.prog 52 #[.string s] w fun e w' => e = .returned (.bool r) ∧ w = w':=by
 have HE:=Lib.hid hE
 have HR:=Lib.hid hr
 clear hE hr
 by_cases h0 : s.size = 0
 ·have h1:=zBY s h0
  have HF : Hid (false = r):=Lib.hid (by rw [← HR.out]; simp [keptB,h0])
  clear h0
  go_enter Try.func52,Try.ntmps52
  go_wp2_with fail
  go_ret
  exact ⟨by rw [← HF.out]; rfl,rfl⟩
 ·have h1:=zCf s (by omega)
  have h2 : s.toList.isEmpty = false:=by simpa using h1
  cases hb : hasB s 32 with
  | true =>
   have HF : Hid (false = r):=Lib.hid (by rw [← HR.out]; simp [keptB,hb])
   have HB:=Lib.hid hb
   clear hb
   go_enter Try.func52,Try.ntmps52
   go_wp2_with fail
   refine (idx_32 s _).mono ?_
   rintro e_ w1 ⟨v,rfl,HV,rfl⟩
   have t1 : decide (v < 0) = false:=by rw [HV.out,HB.out]; rfl
   go_wp2_with fail
   go_ret
   exact ⟨by rw [← HF.out]; rfl,rfl⟩
  | false =>
   have HF : Hid (Lib.contains keptText.data.toList (spaced s).data.toList = r):=Lib.hid (by rw [← HR.out]; simp [keptB,hb,h0])
   have HB:=Lib.hid hb
   clear hb
   go_enter Try.func52,Try.ntmps52
   go_wp2_with fail
   refine (idx_32 s _).mono ?_
   rintro e_ w1 ⟨v,rfl,HV,rfl⟩
   have t1 : decide (v < 0) = true:=by rw [HV.out,HB.out]; rfl
   go_wp2_with fail
   refine (contains_any keptText (spaced s) (by decide) _ HE.out).mono ?_
   rintro e_ w1 ⟨rfl,rfl⟩
   rw [HF.out]
   go_wp2_with fail
   go_ret
   exact ⟨rfl,rfl⟩
def identB (s : ByteArray) : Bool:=decide (s.size ≠ 0) && decide (s.size ≤ 20) && onlyB partsT s && !hasB digitsT (s.data.getD 0 0) && !keptB s
theorem zCD (s : ByteArray) (h : 0 < s.size) : s[0] = s.data.getD 0 0:=by
 have h2 : 0 < s.data.size:=h
 rw [ByteArray.getElem_eq_getElem_data,Array.getD_eq_getD_getElem?,Array.getElem?_eq_getElem h2]
 rfl
set_option maxRecDepth 100000 in
set_option maxHeartbeats 8000000 in
theorem ident_is (s : ByteArray) (r : Bool) (hr : identB s = r) (hsz : s.size ≤ 1000000) (w : World) (hE : Env w) :
  Calls Try.prog 38 #[.string s] w fun e w' => e = .returned (.bool r) ∧ Below w.heap.size w w':=by
 have HE:=Lib.hid hE
 have HR:=Lib.hid hr
 clear hE hr
 by_cases h0 : s.size = 0
 ·have h1:=zBY s h0
  have HF : Hid (false = r):=Lib.hid (by rw [← HR.out]; simp [identB,h0])
  clear h0
  go_enter Try.func38,Try.ntmps38
  go_wp2_with fail
  go_ret
  exact ⟨by rw [← HF.out]; rfl,Below.refl _ _⟩
 ·have h1:=zCf s (by omega)
  have h2 : s.toList.isEmpty = false:=by simpa using h1
  have hpos : 0 < s.size:=by omega
  by_cases h20 : s.size ≤ 20
  ·have t1 : decide ((s.size : Int) ≤ 20) = true:=decide_eq_true (by omega)
   cases ho : onlyB partsT s with
   | false =>
    have HF : Hid (false = r):=Lib.hid (by rw [← HR.out]; simp [identB,ho])
    have HO:=Lib.hid ho
    clear ho
    go_enter Try.func38,Try.ntmps38
    go_wp2_with fail
    refine (zCA partsT s hsz _).mono ?_
    rintro e_ w1 ⟨rfl,hb_⟩
    rw [HO.out]
    have HB:=Lib.hid hb_
    clear hb_
    go_wp2_with fail
    go_ret
    exact ⟨by rw [← HF.out]; rfl,HB.out⟩
   | true =>
    have HO:=Lib.hid ho
    clear ho
    cases hd : hasB digitsT s[0] with
    | true =>
     have HF : Hid (false = r):=Lib.hid (by rw [← HR.out]; simp [identB,← zCD s hpos,hd])
     have HD:=Lib.hid hd
     clear hd
     go_enter Try.func38,Try.ntmps38
     go_wp2_with fail
     refine (zCA partsT s hsz _).mono ?_
     rintro e_ w1 ⟨rfl,hb_⟩
     rw [HO.out]
     have HB:=Lib.hid hb_
     clear hb_
     go_wp2_with fail
     refine (idx_not digitsT s[0] _).mono ?_
     rintro e_ w1 ⟨v,rfl,HV,rfl⟩
     have t2 : decide (v < 0) = false:=by rw [HV.out,HD.out]; rfl
     go_wp2_with fail
     go_ret
     exact ⟨by rw [← HF.out]; rfl,HB.out⟩
    | false =>
     obtain ⟨kp,hk⟩ : ∃ kp,keptB s = kp:=⟨_,rfl⟩
     have HF : Hid ((!kp) = r):=Lib.hid (by rw [← HR.out]; simp [identB,← zCD s hpos,hd,HO.out,h0,h20,hk])
     have HD:=Lib.hid hd
     have HK:=Lib.hid hk
     clear hd hk
     go_enter Try.func38,Try.ntmps38
     go_wp2_with fail
     refine (zCA partsT s hsz _).mono ?_
     rintro e_ w1 ⟨rfl,hb_⟩
     rw [HO.out]
     have HB:=Lib.hid hb_
     clear hb_
     go_wp2_with fail
     refine (idx_not digitsT s[0] _).mono ?_
     rintro e_ w1 ⟨v,rfl,HV,rfl⟩
     have t2 : decide (v < 0) = true:=by rw [HV.out,HD.out]; rfl
     go_wp2_with fail
     refine (kept_is s kp HK.out hsz _ (HE.out.below HB.out HE.out.six)).mono ?_
     rintro e_ w1 ⟨rfl,rfl⟩
     go_wp2_with fail
     go_ret
     exact ⟨by rw [← HF.out]; rfl,HB.out⟩
  ·have t1 : decide ((s.size : Int) ≤ 20) = false:=decide_eq_false (by omega)
   have HF : Hid (false = r):=Lib.hid (by rw [← HR.out]; simp [identB,h20])
   go_enter Try.func38,Try.ntmps38
   go_wp2_with fail
   go_ret
   exact ⟨by rw [← HF.out]; rfl,Below.refl _ _⟩
theorem zBL (a : ByteArray) : a.toList = a.data.toList:=by
 unfold ByteArray.toList
 have : ∀ n i r,a.size - i = n → ByteArray.toList.loop a i r = r.reverse ++ a.data.toList.drop i:=by
  intro n
  induction n with
  | zero =>
   intro i r hi
   unfold ByteArray.toList.loop
   rw [if_neg (by omega),List.drop_eq_nil_of_le (by have : a.data.size = a.size:=rfl; simp; omega)]
   simp
  | succ n ih =>
   intro i r hi
   unfold ByteArray.toList.loop
   have hs : a.data.size = a.size:=rfl
   rw [if_pos (by omega),ih _ _ (by omega),List.drop_eq_getElem_cons (show i < a.data.toList.length by simp; omega)]
   simp [ByteArray.get!]
   rw [getElem!_pos a.data i (by omega)]
 rw [this _ 0 [] rfl]
 simp
def signsT : ByteArray:=⟨#[32,43,32,45,32,42,32,47,32,37,32,61,61,32,33,61,32,60,32,60,61,32,62,32,62,61,32,38,38,32,124,124,32]⟩
def signedB (s : ByteArray) : Bool:=decide (s.size ≠ 0) && !hasB s 32 && Lib.contains signsT.data.toList (spaced s).data.toList
def nodeV (k n at_ : Int) (tx : ByteArray) (A : Option Addr) (len c : Nat) : Value:=.agg #[.int .i64 k,.int .i64 n,.int .i64 at_,.string tx,.slice A len c]
set_option maxRecDepth 100000 in
set_option maxHeartbeats 16000000 in
theorem text_empty (k n at_ : Int) (tx : ByteArray) (A : Option Addr) (len c : Nat) (hk : k = 1 ∨ k = 6 ∨ k = 10 ∨ k = 11 ∨ k = 12 ∨ k = 14 ∨ k = 15 ∨ k = 20 ∨ k = 21) (w : World) :
  Calls Try.prog 31 #[nodeV k n at_ tx A len c] w fun e w' => e = .returned (.bool tx.toList.isEmpty) ∧ Below w.heap.size w w':=by
 rcases hk with rfl | rfl | rfl | rfl | rfl | rfl | rfl | rfl | rfl
 all_goals
  unfold nodeV
  go_enter Try.func31,Try.ntmps31
  go_wp2_with fail
  go_ret
  exact ⟨rfl,zAg (Below.refl _ _) _⟩
set_option maxRecDepth 100000 in
set_option maxHeartbeats 16000000 in
theorem text_name (k n at_ : Int) (tx : ByteArray) (A : Option Addr) (len c : Nat) (hk : k = 2 ∨ k = 3 ∨ k = 4 ∨ k = 5 ∨ k = 7 ∨ k = 8 ∨ k = 9 ∨ k = 16 ∨ k = 17 ∨ k = 18 ∨ k = 19 ∨ k = 22 ∨ k = 23 ∨ k = 24 ∨ k = 25) (hs : tx.size ≤ 1000) (w : World) (hE : Env w) :
  Calls Try.prog 31 #[nodeV k n at_ tx A len c] w fun e w' => e = .returned (.bool (identB tx)) ∧ Below w.heap.size w w':=by
 rcases hk with rfl | rfl | rfl | rfl | rfl | rfl | rfl | rfl | rfl | rfl | rfl | rfl | rfl | rfl | rfl
 all_goals
  have HE:=Lib.hid hE
  clear hE
  unfold nodeV
  go_enter Try.func31,Try.ntmps31
  go_wp2_with fail
  refine (ident_is tx (identB tx) rfl (by omega) _ (HE.out.below (zAg (Below.refl _ _) _) HE.out.six)).mono ?_
  rintro e_ w1 ⟨rfl,hb_⟩
  have HB:=Lib.hid (zAm (zAg (Below.refl w.heap.size w) _) hb_)
  clear hb_
  go_wp2_with fail
  go_ret
  exact ⟨rfl,HB.out⟩
set_option maxRecDepth 100000 in
set_option maxHeartbeats 16000000 in
theorem text_call (n at_ : Int) (tx : ByteArray) (A : Option Addr) (len c : Nat) (hs : tx.size ≤ 1000) (w : World) (hE : Env w) :
  Calls Try.prog 31 #[nodeV 13 n at_ tx A len c] w fun e w' => e = .returned (.bool (tx.toList.isEmpty || identB tx)) ∧ Below w.heap.size w w':=by
 have HE:=Lib.hid hE
 clear hE
 unfold nodeV
 by_cases h0 : tx.size = 0
 ·have h1:=zBY tx h0
  go_enter Try.func31,Try.ntmps31
  go_wp2_with fail
  go_ret
  exact ⟨by rw [h1]; rfl,zAg (Below.refl _ _) _⟩
 ·have h1:=zCf tx (by omega)
  have h2 : tx.toList.isEmpty = false:=by simpa using h1
  have h3 : (tx.toList == []) = false:=by simpa using h1
  have hr : (tx.toList.isEmpty || identB tx) = identB tx:=by rw [h2]; rfl
  rw [hr]
  go_enter Try.func31,Try.ntmps31
  go_wp2_with fail
  refine (ident_is tx (identB tx) rfl (by omega) _ (HE.out.below (zAg (Below.refl _ _) _) HE.out.six)).mono ?_
  rintro e_ w1 ⟨rfl,hb_⟩
  have HB:=Lib.hid (zAm (zAg (Below.refl w.heap.size w) _) hb_)
  clear hb_
  go_wp2_with fail
  go_ret
  exact ⟨rfl,HB.out⟩
set_option maxRecDepth 100000 in
set_option maxHeartbeats 16000000 in
theorem text_one (n at_ : Int) (tx : ByteArray) (A : Option Addr) (len c : Nat) (w : World) :
  Calls Try.prog 31 #[nodeV 26 n at_ tx A len c] w fun e w' => e = .returned (.bool (tx.toList == [45] || tx.toList == [33])) ∧ Below w.heap.size w w':=by
 unfold nodeV
 cases h1 : (tx.toList == [45])
 ·cases h2 : (tx.toList == [33])
  ·go_enter Try.func31,Try.ntmps31
   go_wp2_with fail
   go_ret
   exact ⟨rfl,zAg (Below.refl _ _) _⟩
  ·go_enter Try.func31,Try.ntmps31
   go_wp2_with fail
   go_ret
   exact ⟨rfl,zAg (Below.refl _ _) _⟩
 ·go_enter Try.func31,Try.ntmps31
  go_wp2_with fail
  go_ret
  exact ⟨rfl,zAg (Below.refl _ _) _⟩
set_option maxRecDepth 100000 in
set_option maxHeartbeats 16000000 in
theorem text_sign (n at_ : Int) (tx : ByteArray) (A : Option Addr) (len c : Nat) (hs : tx.size ≤ 1000) (w : World) (hE : Env w) :
  Calls Try.prog 31 #[nodeV 27 n at_ tx A len c] w fun e w' => e = .returned (.bool (signedB tx)) ∧ Below w.heap.size w w':=by
 have HE:=Lib.hid hE
 clear hE
 unfold nodeV
 by_cases h0 : tx.size = 0
 ·have h1:=zBY tx h0
  have hr : signedB tx = false:=by simp [signedB,h0]
  rw [hr]
  clear h0 hr
  go_enter Try.func31,Try.ntmps31
  go_wp2_with fail
  go_ret
  exact ⟨rfl,zAg (Below.refl _ _) _⟩
 ·have h1:=zCf tx (by omega)
  have h2 : tx.toList.isEmpty = false:=by simpa using h1
  cases hb : hasB tx 32 with
  | true =>
   have hr : signedB tx = false:=by simp [signedB,hb]
   rw [hr]
   have HB:=Lib.hid hb
   clear hb hr
   go_enter Try.func31,Try.ntmps31
   go_wp2_with fail
   refine (idx_32 tx _).mono ?_
   rintro e_ w1 ⟨v,rfl,HV,rfl⟩
   have t1 : decide (v < 0) = false:=by rw [HV.out,HB.out]; rfl
   go_wp2_with fail
   go_ret
   exact ⟨rfl,zAg (Below.refl _ _) _⟩
  | false =>
   obtain ⟨r,hr⟩ : ∃ r,r = Lib.contains signsT.data.toList (spaced tx).data.toList:=⟨_,rfl⟩
   have hr2 : signedB tx = r:=by rw [hr]; simp [signedB,hb,h0]
   rw [hr2]
   have HR:=Lib.hid hr
   have HB:=Lib.hid hb
   clear hb hr hr2
   go_enter Try.func31,Try.ntmps31
   go_wp2_with fail
   refine (idx_32 tx _).mono ?_
   rintro e_ w1 ⟨v,rfl,HV,rfl⟩
   have t1 : decide (v < 0) = true:=by rw [HV.out,HB.out]; rfl
   go_wp2_with fail
   refine (contains_any signsT (spaced tx) (by decide) _ (HE.out.below (zAg (Below.refl _ _) _) HE.out.six)).mono ?_
   rintro e_ w1 ⟨rfl,rfl⟩
   rw [← HR.out]
   go_wp2_with fail
   go_ret
   exact ⟨rfl,zAg (Below.refl _ _) _⟩
def textB (k : Int) (tx : ByteArray) : Bool :=
 if k = 1 ∨ k = 6 ∨ k = 10 ∨ k = 11 ∨ k = 12 ∨ k = 14 ∨ k = 15 ∨ k = 20 ∨ k = 21 then tx.toList.isEmpty
 else if k = 13 then tx.toList.isEmpty || identB tx
 else if k = 26 then tx.toList == [45] || tx.toList == [33]
 else if k = 27 then signedB tx
 else identB tx
theorem text_is (k n at_ : Int) (tx : ByteArray) (A : Option Addr) (len c : Nat) (h1 : 1 ≤ k) (h2 : k ≤ 27) (hs : tx.size ≤ 1000) (w : World) (hE : Env w) :
  Calls Try.prog 31 #[nodeV k n at_ tx A len c] w fun e w' => e = .returned (.bool (textB k tx)) ∧ Below w.heap.size w w':=by
 unfold textB
 split
 ·rename_i hk; exact text_empty k n at_ tx A len c hk w
 ·split
  ·rename_i hk; subst hk; exact text_call n at_ tx A len c hs w hE
  ·split
   ·rename_i hk; subst hk; exact text_one n at_ tx A len c w
   ·split
    ·rename_i hk; subst hk; exact text_sign n at_ tx A len c hs w hE
    ·exact text_name k n at_ tx A len c (by omega) hs w hE
attribute [local go_sem] zBa zAY max_two min_two zAR zAT zAZ zAX
def zBr.f (a0 : Int) : Option (Bool):=if a0 ≥ 7 then (some (decide (a0 ≤ 17))) else (some false)
set_option maxHeartbeats 8000000 in
set_option maxRecDepth 100000 in
theorem zBr.calls (a0 : Int) (r : Bool) (w : World) (h : zBr.f a0 = some r) :
  Calls Try.prog 45 #[.int .i64 a0] w fun e w' => e = .returned (.bool r) ∧ Drawn0 w w':=by
 have H : (if a0 ≥ 7 then (some (decide (a0 ≤ 17))) else (some false)) = some r:=h
 clear h
 by_cases c2 : a0 ≥ 7
 ·rw [if_pos c2] at H
  have c2b0 : decide (7 ≤ a0) = true:=decide_eq_true c2
  clear c2
  obtain rfl:=Option.some.inj H
  go_enter Try.func45,Try.ntmps45
  go_wp2
  go_ret
  exact ⟨by first | rfl | (simp; done) | (simp [*]; done),by repeat (first | exact Drawn0.refl _ | apply Drawn0.step)⟩
 ·rw [if_neg c2] at H
  have c2b0 : decide (7 ≤ a0) = false:=decide_eq_false c2
  clear c2
  obtain rfl:=Option.some.inj H
  go_enter Try.func45,Try.ntmps45
  go_wp2
  go_ret
  exact ⟨by first | rfl | (simp; done) | (simp [*]; done),by repeat (first | exact Drawn0.refl _ | apply Drawn0.step)⟩
def zBn.f (a0 : Int) : Option (Bool):=if a0 ≥ 20 then (some (decide (a0 ≤ 27))) else (some false)
set_option maxHeartbeats 8000000 in
set_option maxRecDepth 100000 in
theorem zBn.calls (a0 : Int) (r : Bool) (w : World) (h : zBn.f a0 = some r) :
  Calls Try.prog 46 #[.int .i64 a0] w fun e w' => e = .returned (.bool r) ∧ Drawn0 w w':=by
 have H : (if a0 ≥ 20 then (some (decide (a0 ≤ 27))) else (some false)) = some r:=h
 clear h
 by_cases c2 : a0 ≥ 20
 ·rw [if_pos c2] at H
  have c2b0 : decide (20 ≤ a0) = true:=decide_eq_true c2
  clear c2
  obtain rfl:=Option.some.inj H
  go_enter Try.func46,Try.ntmps46
  go_wp2
  go_ret
  exact ⟨by first | rfl | (simp; done) | (simp [*]; done),by repeat (first | exact Drawn0.refl _ | apply Drawn0.step)⟩
 ·rw [if_neg c2] at H
  have c2b0 : decide (20 ≤ a0) = false:=decide_eq_false c2
  clear c2
  obtain rfl:=Option.some.inj H
  go_enter Try.func46,Try.ntmps46
  go_wp2
  go_ret
  exact ⟨by first | rfl | (simp; done) | (simp [*]; done),by repeat (first | exact Drawn0.refl _ | apply Drawn0.step)⟩
end Go.Proofs.Ytpggidmpkhmijaa.P
