import Derived.Test.YtpggidmpkhmijaaPf15
import Derived.Outline
import Derived.Laws.EntriesVeiled
import Derived.Lib.Hide
import Derived.Test.YtpggidmpkhmijaaRose
import Derived.Test.YtpggidmpkhmijaaPf16
set_option linter.unusedVariables false
set_option linter.unusedSimpArgs false
namespace Go.Proofs.Ytpggidmpkhmijaa.P
open Go.RowKit Go.Proofs.YtpggidmpkhmijaaW.PrintWords Go.Proofs.YtpggidmpkhmijaaW.PrintLast Go.Proofs.YtpggidmpkhmijaaW.PrintMore
attribute [local go_sem] zBa zAY max_two min_two zAR zAT zAZ zAX
def zAI.kids (deep : Int → Option Int) : List Int → Int → Option Int
 | [],d => some d
 | x :: xs,d => (deep x).bind fun r => zAI.kids deep xs (mx d r)
def zAI.deep : Nat → List S24 → Int → Option Int
 | 0,_,_ => none
 | k + 1,l,p => if 0 ≤ p then (if p < (l.length : Int) then (zAI.kids (zAI.deep k l) (rd_T24 l p).f4 0).bind fun d => some (wrap64 (d + 1)) else none) else none
def zAI.f (k : Nat) (l0_0 : List S24) (a0_1 : Int) : Option Int :=
 (zAJ.f l0_0 a0_1).bind fun t => if t = true then zAI.deep k l0_0 a0_1 else some 0
set_option maxHeartbeats 800000 in
theorem zAI.deep_calls (Bt Bd : Nat) (A : Option Addr) (c : Nat) (l : List S24) (root : Int) (w : World)
  (hT : w.cell? ⟨Bt,0,none⟩ = some (.slice A l.length c)) (hD : w.cell? ⟨Bd,0,none⟩ = some (.func (.func 28) #[] #[.pointer (some ⟨Bt,0,none⟩),.pointer (some ⟨Bd,0,none⟩)]))
  (hr : Kd.C k24 w A l.length l) (hc : l.length ≤ c) : ∀ (k : Nat) (p r : Int),zAI.deep k l p = some r →
  Calls Try.prog 28 #[.int .i64 p,.pointer (some ⟨Bt,0,none⟩),.pointer (some ⟨Bd,0,none⟩)] w fun e w' => e = .returned (.int .i64 r) ∧ w' = w
 | 0,p,r,h => by simp [zAI.deep] at h
 | k + 1,p,r,h => by
  have IH:=Lib.hid (zAI.deep_calls Bt Bd A c l root w hT hD hr hc k)
  have HR:=Aside0.mk hr
  have HC:=Aside0.mk hc
  clear hr hc
  rw [zAI.deep] at h
  by_cases h0 : 0 ≤ p
  ·rw [if_pos h0] at h
   by_cases h1 : p < (l.length : Int)
   ·rw [if_pos h1] at h
    obtain ⟨d,hd,hrd⟩:=Option.bind_eq_some_iff.1 h
    clear h
    obtain rfl:=Option.some.inj hrd
    clear hrd
    obtain ⟨ad,A4,c4,e,_,_,_,_,hk4,hl4,hC4⟩:=at_T24 HR.out p h0 h1
    cases e
    have hbnd : (rd_T24 l p).f4.length ≤ 9223372036854775807:=hC4.2.1
    have HC4:=Aside0.mk hC4
    have HL4:=Aside0.mk hl4
    clear hC4 hl4
    have HD:=Aside0.mk hd
    clear hd
    go_enter Try.func28,Try.ntmps28
    go_wp2
    go_loop [5,15] (fun v5 v15 => ∃ (i : Nat) (dv : Int),i ≤ (rd_T24 l p).f4.length ∧ v5 = .int .i64 dv ∧ v15 = .int .i64 (i : Int) ∧ Aside0 (zAI.kids (zAI.deep k l) ((rd_T24 l p).f4.drop i) dv = some d)) (fun _ v15 => (rd_T24 l p).f4.length - (intOf v15).toNat)
    case atStart => exact ⟨0,0,Nat.zero_le _,rfl,rfl,by simpa using HD⟩
    case round =>
     obtain ⟨i,dv,hi,rfl,rfl,HK⟩:=hrel
     by_cases hlt : i < (rd_T24 l p).f4.length
     ·have hK:=HK.out
      rw [List.drop_eq_getElem_cons hlt,zAI.kids] at hK
      obtain ⟨rx,hx,hK2⟩:=Option.bind_eq_some_iff.1 hK
      clear hK
      have HX:=Lib.hid hx
      have HK2:=Aside0.mk hK2
      clear hx hK2 HK
      obtain ⟨ad4,e4,hcell⟩:=Kd.at_int HC4.out (i : Int) (by omega) (by omega)
      cases e4
      have hq : rd (rd_T24 l p).f4 (i : Int) = (rd_T24 l p).f4[i]:=by simp [rd,hlt]
      rw [hq,Int.toNat_natCast] at hcell
      clear hq
      go_wp2_with (go_at_call 28; refine (IH.out _ rx HX.out).mono ?_; rintro e w' ⟨rfl,rfl⟩)
      go_round
      case rel => exact ⟨i + 1,mx dv rx,by omega,rfl,by go_num,HK2⟩
      case measure => simp [intOf]; omega
     ·have hie : i = (rd_T24 l p).f4.length:=by omega
      subst hie
      have hK:=HK.out
      rw [List.drop_length,zAI.kids] at hK
      obtain rfl:=Option.some.inj hK
      clear hK HK
      go_wp2
      go_ret
      exact ⟨rfl,rfl⟩
   ·rw [if_neg h1] at h; cases h
  ·rw [if_neg h0] at h; cases h
set_option maxHeartbeats 800000 in
theorem zAI.calls (k : Nat) (A0_0 : Option Addr) (c0_0 : Nat) (l0_0 : List S24) (a0_1 : Int) (r : Int) (w : World) (hr0_0 : Kd.C k24 w A0_0 l0_0.length l0_0) (hc0_0 : l0_0.length ≤ c0_0) (h : zAI.f k l0_0 a0_1 = some r) :
  Calls Try.prog 17 #[.agg #[.slice A0_0 l0_0.length c0_0,.int .i64 a0_1]] w fun e w' => e = .returned (.int .i64 r) ∧ Below w.heap.size w w':=by
 have HR:=Aside0.mk hr0_0
 have HC:=Aside0.mk hc0_0
 clear hr0_0 hc0_0
 unfold zAI.f at h
 obtain ⟨b,hb,hf⟩:=Option.bind_eq_some_iff.1 h
 clear h
 have HS:=Lib.hid hb
 clear hb
 have hu30:=Try.underlying30
 cases b with
 | false =>
  obtain rfl:=Option.some.inj hf
  clear hf
  go_enter Try.func17,Try.ntmps17
  go_wp2_with (go_at_call 15; refine (zAJ.calls _ _ l0_0 a0_1 false _ (Kd.C_below HR.out ((Below.refl _ _).alloc (Nat.le_refl _) _)) HC.out HS.out).mono ?_; rintro e w' ⟨rfl,hb⟩)
  go_ret
  exact ⟨rfl,((Below.refl _ _).alloc (Nat.le_refl _) _).trans (hb.mono (by simp))⟩
 | true =>
  have HF:=Lib.hid (show zAI.deep k l0_0 a0_1 = some r from hf)
  clear hf
  go_enter Try.func17,Try.ntmps17
  go_wp2_with (go_at_call 15; refine (zAJ.calls _ _ l0_0 a0_1 true _ (Kd.C_below HR.out ((Below.refl _ _).alloc (Nat.le_refl _) _)) HC.out HS.out).mono ?_; rintro e w1 ⟨rfl,hb⟩; have e0 : w1.cell? ⟨w.heap.size,0,none⟩ = some (.slice A0_0 l0_0.length c0_0):=(hb.cell (p:=⟨w.heap.size,0,none⟩) (by simp)).trans (by go_simp); have e1 : w1.cell? ⟨w.heap.size,1,none⟩ = some (.int .i64 a0_1):=(hb.cell (p:=⟨w.heap.size,1,none⟩) (by simp)).trans (by go_simp); have hz1 : w.heap.size < w1.heap.size:=by have:=hb.size; simp at this; omega)
  refine (zAI.deep_calls w.heap.size w1.heap.size A0_0 c0_0 l0_0 a0_1 _ ?hT ?hD ?hr HC.out k _ r HF.out).mono ?_
  case hT => go_simp
  case hD => go_simp
  case hr => exact Kd.C_below (Kd.C_below HR.out ((Below.refl _ _).alloc (Nat.le_refl _) _)) (((hb.mono (Nat.le_refl _)).alloc hb.size _))
  rintro e w' ⟨rfl,rfl⟩
  go_wp2
  go_ret
  exact ⟨rfl,(((Below.refl _ _).alloc (Nat.le_refl _) _).trans (hb.mono (by simp))).alloc (by omega) _⟩
theorem outer_whole (t : RT) : szOuter (RT.flat 0 t) [] = some t.szs:=by
 have h:=outer_flat t [] []
 simpa [szOuter] using h
theorem sizes_flat (t : RT) (h : t.size ≤ 4000) : zBf.f (RT.flat 0 t) = some (t.szs,true):=by
 unfold zBf.f
 rw [if_pos (by rw [RT.flat_len]; omega),outer_whole]
theorem zBq (t : RT) (h : t.size ≤ 4000) : zAJ.f (RT.flat 0 t) ((t.size : Int) - 1) = some true:=by
 have hp:=RT.size_pos t
 have hl:=RT.flat_len 0 t
 unfold zAJ.f
 rw [if_neg (by omega),if_neg (by omega),if_pos (by rw [hl]; unfold wrap64; omega),sizes_flat t h]
 simp only [Option.bind_some]
 rw [if_pos trivial,if_pos (by omega),if_pos (by rw [RT.szs_len]; omega)]
 have:=RT.szs_last t
 rw [show ((t.size : Int) - 1) = ((t.size - 1 : Nat) : Int) from by omega,this,RT.szs_len]
 simp
theorem zBz (l : List S24) (r : Int) : zAJ.f l r = some false ∨ ∃ t : RT,l = RT.flat 0 t ∧ t.size ≤ 4000 ∧ r = (t.size : Int) - 1:=by
 unfold zAJ.f
 by_cases h0 : (l.length : Int) = 0
 ·rw [if_pos h0]; exact .inl rfl
 rw [if_neg h0]
 by_cases h1 : (l.length : Int) > 4000
 ·rw [if_pos h1]; exact .inl rfl
 rw [if_neg h1]
 by_cases h2 : r = wrap64 ((l.length : Int) - 1)
 ·rw [if_pos h2]
  have hr : r = ((l.length - 1 : Nat) : Int):=by rw [h2]; unfold wrap64; omega
  cases ho : szOuter l [] with
  | none =>
   have hs : zBf.f l = some ([],false):=by unfold zBf.f; rw [if_pos (by omega),ho]
   rw [hs]; exact .inl rfl
  | some out =>
   have hs : zBf.f l = some (out,true):=by unfold zBf.f; rw [if_pos (by omega),ho]
   rw [hs]
   simp only [Option.bind_some]
   obtain ⟨suf,e1,e2,_⟩:=zCi l [] out ho
   have hol : out.length = l.length:=by rw [e1]; simpa using e2
   rw [if_pos trivial,if_pos (by omega),if_pos (by omega)]
   by_cases hz : rd out r = (out.length : Int)
   ·right
    obtain ⟨t,ht,htl⟩:=flat_of ho (by omega) (by rw [← hr,hz,hol])
    exact ⟨t,ht,by omega,by rw [hr,htl]; omega⟩
   ·left
    simp [hz]
 ·rw [if_neg h2]; exact .inl rfl
theorem mx_max (a b : Nat) : mx (a : Int) (b : Int) = ((max a b : Nat) : Int):=by
 unfold mx
 split <;> omega
theorem zCa {ns : List S24} {o : Nat} {x : S24} {ks : List RT} (h : AtT ns o (.node x ks)) : rd_T24 ns ((o : Int) + (RT.node x ks).size - 1) = { x with f4:=RT.roots o ks }:=by
 obtain ⟨_,hl,hx⟩:=h.kids
 rw [RT.size,show ((o : Int) + ((RT.sizes ks + 1 : Nat) : Int) - 1) = ((o + RT.sizes ks : Nat) : Int) from by omega,rdT24 ns _ hl,hx]
mutual
theorem deep_at (ns : List S24) (hn : ns.length < 1000000) : ∀ (t : RT) (o k : Nat),AtT ns o t → t.depth ≤ k → zAI.deep k ns ((o : Int) + t.size - 1) = some (t.depth : Int)
 | .node x ks,o,k,h,hk => by
  rw [RT.depth] at hk
  obtain ⟨k,rfl⟩ : ∃ m,k = m + 1:=⟨k - 1,by omega⟩
  have hle:=h.le
  have hd:=deep_kids ns hn ks o k h.kids.1 (by have:=h.le; omega) (by omega) 0
  rw [Nat.zero_max,show ((0 : Nat) : Int) = 0 from rfl] at hd
  have hdl : RT.depths ks < 1000000:=by
   have:=zBD ks
   rw [RT.size] at hle
   omega
  rw [zAI.deep,if_pos (by rw [RT.size]; omega),if_pos (by rw [RT.size] at hle ⊢; omega),zCa h]
  dsimp only
  rw [hd]
  simp only [Option.bind_some,RT.depth]
  congr 1
  unfold wrap64
  omega
theorem deep_kids (ns : List S24) (hn : ns.length < 1000000) : ∀ (ts : List RT) (o k : Nat),AtF ns o ts → o ≤ ns.length → RT.depths ts ≤ k → ∀ d : Nat,zAI.kids (zAI.deep k ns) (RT.roots o ts) (d : Int) = some ((max d (RT.depths ts) : Nat) : Int)
 | [],o,k,h,ho,hk,d => by simp [RT.roots,zAI.kids,RT.depths]
 | t :: ts,o,k,h,ho,hk,d => by
  obtain ⟨h1,h2⟩:=h.head ho
  rw [RT.depths] at hk
  have e1:=deep_at ns hn t o k h1 (by omega)
  rw [RT.roots,zAI.kids,e1]
  simp only [Option.bind_some]
  rw [mx_max,deep_kids ns hn ts (o + t.size) k h2 h1.le (by omega) (max d t.depth),RT.depths,Nat.max_assoc]
theorem zBM : ∀ t : RT,t.depth ≤ t.size
 | .node x ks => by have:=zBD ks; rw [RT.depth,RT.size]; omega
theorem zBD : ∀ ts : List RT,RT.depths ts ≤ RT.sizes ts
 | [] => by simp [RT.depths,RT.sizes]
 | t :: ts => by have h1:=zBM t; have h2:=zBD ts; rw [RT.depths,RT.sizes]; omega
end
theorem depth_ev (t : RT) (h : t.size ≤ 4000) : Ev (fun k => zAI.f k (RT.flat 0 t) ((t.size : Int) - 1)) (t.depth : Int):=by
 have hp:=RT.size_pos t
 refine ⟨t.depth,fun k hk => ?_⟩
 unfold zAI.f
 rw [zBq t h]
 simp only [Option.bind_some,if_true]
 have:=deep_at (RT.flat 0 t) (by rw [RT.flat_len]; omega) t 0 k (by unfold AtT; rw [List.drop_zero,← RT.flat_len 0 t,List.take_length]) hk
 rw [show ((0 : Nat) : Int) = 0 from rfl,Int.zero_add] at this
 exact this
theorem depth_no (l : List S24) (r : Int) (h : zAJ.f l r = some false) : Ev (fun k => zAI.f k l r) 0:=by
 refine ⟨0,fun k _ => ?_⟩
 unfold zAI.f
 rw [h]
 simp
theorem zBj {x : Int} (h1 : -1000000 ≤ x) (h2 : x ≤ 1000000) : wrap64 x = x:=by unfold wrap64; omega
theorem roots_shift (a : Int) : ∀ (ts : List RT) (o o' : Nat),o + RT.sizes ts < 500000 → o' + RT.sizes ts < 500000 → (o' : Int) = o + a → shL a (RT.roots o ts) = RT.roots o' ts
 | [],o,o',h,h',ha => rfl
 | t :: ts,o,o',h,h',ha => by
  have hp:=RT.size_pos t
  rw [RT.sizes] at h h'
  have ih:=roots_shift a ts (o + t.size) (o' + t.size) (by omega) (by omega) (by omega)
  simp only [shL,RT.roots,List.map_cons] at ih ⊢
  rw [ih,zBj (by omega) (by omega)]
  congr 1
  omega
mutual
theorem zCj (a : Int) : ∀ (t : RT) (o o' : Nat),o + t.size < 500000 → o' + t.size < 500000 → (o' : Int) = o + a → (RT.flat o t).map (shN a) = RT.flat o' t
 | .node x ks,o,o',h,h',ha => by
  rw [RT.size] at h h'
  rw [RT.flat,List.map_append,flats_shift a ks o o' (by omega) (by omega) ha,List.map_cons,List.map_nil,RT.flat]
  simp only [shN]
  rw [roots_shift a ks o o' (by omega) (by omega) ha]
theorem flats_shift (a : Int) : ∀ (ts : List RT) (o o' : Nat),o + RT.sizes ts < 500000 → o' + RT.sizes ts < 500000 → (o' : Int) = o + a → (RT.flats o ts).map (shN a) = RT.flats o' ts
 | [],o,o',h,h',ha => rfl
 | t :: ts,o,o',h,h',ha => by
  rw [RT.sizes] at h h'
  rw [RT.flats,List.map_append,zCj a t o o' (by omega) (by omega) ha,flats_shift a ts (o + t.size) (o' + t.size) (by omega) (by omega) (by omega),RT.flats]
end
structure SubAt (ns : List S24) (o p : Nat) (szs : List Int) (t : RT) (o' : Nat) : Prop where
 at_ : AtT ns o' t
 ge : o ≤ o'
 root : o' + t.size = o + p + 1
 size : (t.size : Int) = rd szs (p : Int)
mutual
theorem subAt (ns : List S24) : ∀ (T : RT) (o p : Nat),AtT ns o T → p < T.size → ∃ t o',SubAt ns o p T.szs t o' ∧ t.depth ≤ T.depth ∧ (p + 1 < T.size → t.depth < T.depth)
 | .node x ks,o,p,h,hp => by
  rw [RT.size] at hp
  by_cases hl : p < RT.sizes ks
  ·obtain ⟨t,o',h1,h2⟩:=subAts ns ks o p h.kids.1 (by have:=h.le; omega) hl
   refine ⟨t,o',⟨h1.at_,h1.ge,h1.root,?_⟩,by rw [RT.depth]; omega,fun _ => by rw [RT.depth]; omega⟩
   rw [RT.szs,zBH _ _ _ (by rw [RT.szss_len]; exact hl)]
   exact h1.size
  ·have hpe : p = RT.sizes ks:=by omega
   refine ⟨.node x ks,o,⟨h,Nat.le_refl _,by rw [RT.size,hpe]; omega,?_⟩,Nat.le_refl _,fun hc => by rw [RT.size] at hc; omega⟩
   have:=RT.szs_last (.node x ks)
   rw [RT.size,Nat.add_sub_cancel] at this
   rw [hpe,this,RT.size]
theorem subAts (ns : List S24) : ∀ (ts : List RT) (o p : Nat),AtF ns o ts → o ≤ ns.length → p < RT.sizes ts → ∃ t o',SubAt ns o p (RT.szss ts) t o' ∧ t.depth ≤ RT.depths ts
 | [],o,p,h,ho,hp => by simp [RT.sizes] at hp
 | t :: ts,o,p,h,ho,hp => by
  obtain ⟨h1,h2⟩:=h.head ho
  rw [RT.sizes] at hp
  by_cases hl : p < t.size
  ·obtain ⟨t',o',q1,q2,_⟩:=subAt ns t o p h1 hl
   refine ⟨t',o',⟨q1.at_,q1.ge,q1.root,?_⟩,by rw [RT.depths]; omega⟩
   rw [RT.szss,zBH _ _ _ (by rw [RT.szs_len]; exact hl)]
   exact q1.size
  ·obtain ⟨t',o',q1,q2⟩:=subAts ns ts (o + t.size) (p - t.size) h2 h1.le (by omega)
   refine ⟨t',o',⟨q1.at_,by have:=q1.ge; omega,by have:=q1.root; omega,?_⟩,by rw [RT.depths]; omega⟩
   rw [RT.szss,show (p : Int) = ((t.szs.length + (p - t.size) : Nat) : Int) from by rw [RT.szs_len]; omega,zBy]
   exact q1.size
end
theorem zBP : ∀ ks : List RT,ks.length ≤ RT.sizes ks
 | [] => by simp [RT.sizes]
 | t :: ts => by have h1:=RT.size_pos t; have h2:=zBP ts; rw [RT.sizes,List.length_cons]; omega
theorem zBu (T : RT) (hT : T.size ≤ 4000) : ∀ x ∈ RT.flat 0 T,x.f4.length ≤ 4000:=by
 intro x hx
 obtain ⟨i,hi,rfl⟩:=List.mem_iff_getElem.1 hx
 have hi' : i < T.size:=by rwa [RT.flat_len] at hi
 have hat : AtT (RT.flat 0 T) 0 T:=by unfold AtT; rw [List.drop_zero,← RT.flat_len 0 T,List.take_length]
 obtain ⟨t,o',hs,_⟩:=subAt (RT.flat 0 T) T 0 i hat hi'
 have hroot:=hs.root
 have hle:=hs.at_.le
 rw [RT.flat_len] at hle
 cases t with
 | node y ks =>
  obtain ⟨_,hl,hx⟩:=hs.at_.kids
  rw [RT.size] at hroot
  have he : o' + RT.sizes ks = i:=by omega
  simp only [he] at hx
  rw [hx]
  simp only [RT.roots_len]
  have:=zBP ks
  rw [RT.size] at hle
  omega
theorem sub_l0 (ns : List S24) (hn : ns.length < 1000000) (hk : ∀ x ∈ ns,x.f4.length < 1000000) (a rt : Int) : ∀ (d i : Nat) (acc : List S24),i + d = ns.length → acc.length = i →
  Ev (fun k => zAK.l0 k a ns (ns.length : Int) (i : Int) acc rt) (acc ++ (ns.drop i).map (shN (wrap64 (-a))),rt)
 | 0,i,acc,hd,ha => by
  rw [List.drop_of_length_le (by omega),List.map_nil,List.append_nil]
  exact Ev.step (fun k => by simp only [zAK.l0]; rw [if_neg (by omega)]) (Ev.now _)
 | d + 1,i,acc,hd,ha => by
  have hi : i < ns.length:=by omega
  refine Ev.step (f:=fun k => (zBc.f k ns[i].f0 ns[i].f1 ns[i].f2 ns[i].f3 ns[i].f4 (wrap64 (-a))).bind fun bt => zAK.l0 k a ns (ns.length : Int) ((i + 1 : Nat) : Int) (acc ++ [⟨bt.1,bt.2.1,bt.2.2.1,bt.2.2.2.1,bt.2.2.2.2⟩]) rt)
   (fun k => by simp only [zAK.l0]; rw [if_pos (by omega),if_pos (by omega),if_pos (by omega),rdT24 ns i hi,wrapS i (by omega)]; simp only [if_pos (show acc.length < 2199023255552 by omega)]) ?_
  refine Ev.bind (shift_ev _ ns[i] (by have:=hk ns[i] (List.getElem_mem hi); omega)) ?_
  have h:=sub_l0 ns hn hk a rt d (i + 1) (acc ++ [shN (wrap64 (-a)) ns[i]]) (by omega) (by simp [ha])
  rw [List.drop_eq_getElem_cons hi,List.map_cons]
  rw [List.append_assoc,List.cons_append,List.nil_append] at h
  exact h
theorem sub_ev (T : RT) (hT : T.size ≤ 4000) (t : RT) (o' p : Nat) (hp : p < T.size) (hs : SubAt (RT.flat 0 T) 0 p T.szs t o') : Ev (fun k => zAK.f k (RT.flat 0 T) ((T.size : Int) - 1) (p : Int)) (RT.flat 0 t,(t.size : Int) - 1):=by
 have hr:=hs.root
 have htp:=RT.size_pos t
 have hsz:=hs.size
 unfold zAK.f
 rw [zBq T hT]
 simp only [Option.bind_some]
 refine ev_iff (by trivial) (ev_ifn (by omega) ?_)
 rw [show decide ((p : Int) ≥ ((RT.flat 0 T).length : Int)) = false from by rw [RT.flat_len]; simp; omega]
 refine Ev.step (f:=fun k => zAK.l0 k (o' : Int) (RT.flat o' t) ((RT.flat o' t).length : Int) ((0 : Nat) : Int) [] ((t.size : Int) - 1)) (fun k => ?_) ?_
 ·simp only [zAK.j0]
  rw [if_neg (by simp),sizes_flat T hT]
  simp only [Option.bind_some]
  have e1 : wrap64 ((p : Int) + 1) = ((p + 1 : Nat) : Int):=wrapS p (by omega)
  have e2 : wrap64 (((p + 1 : Nat) : Int) - rd T.szs (p : Int)) = (o' : Int):=by rw [← hsz,zBj (by omega) (by omega)]; omega
  have e3 : wrap64 ((p : Int) - (o' : Int)) = (t.size : Int) - 1:=by rw [zBj (by omega) (by omega)]; omega
  rw [e1,e2,e3,if_pos (by omega),if_pos (by rw [RT.szs_len]; omega),if_pos (by omega),if_pos (by omega),if_pos (by rw [RT.flat_len]; omega)]
  simp only [Int.toNat_natCast]
  have e4 : ((RT.flat 0 T).take (p + 1)).drop o' = RT.flat o' t:=by
   have:=hs.at_
   unfold AtT at this
   rw [← this,List.drop_take,show p + 1 - o' = t.size from by omega]
  rw [e4]
  rfl
 ·have hk : ∀ x ∈ RT.flat o' t,x.f4.length < 1000000:=fun x hx => by
   rw [← (show _ = _ from hs.at_)] at hx
   have:=zBu T hT x (List.mem_of_mem_drop (List.mem_of_mem_take hx))
   omega
  have h:=sub_l0 (RT.flat o' t) (by rw [RT.flat_len]; omega) hk (o' : Int) ((t.size : Int) - 1) (RT.flat o' t).length 0 [] (by omega) rfl
  rw [List.nil_append,List.drop_zero,zCj (wrap64 (-(o' : Int))) t o' 0 (by omega) (by omega) (by rw [zBj (by omega) (by omega)]; omega)] at h
  exact h
theorem sub_no (l : List S24) (r p : Int) (h : zAJ.f l r = some false ∨ (zAJ.f l r = some true ∧ (p < 0 ∨ p ≥ (l.length : Int)))) : Ev (fun k => zAK.f k l r p) ([],0):=by
 have hj : Ev (fun k => zAK.j0 k p true l r) ([],0):=Ev.step (fun k => by simp only [zAK.j0]; rw [if_pos trivial]) (Ev.now _)
 unfold zAK.f
 rcases h with h | ⟨h,hp⟩
 ·rw [h]
  simp only [Option.bind_some]
  exact ev_ifn (by simp) hj
 ·rw [h]
  simp only [Option.bind_some]
  refine ev_iff (by trivial) ?_
  by_cases h0 : p < 0
  ·exact ev_iff h0 hj
  ·refine ev_ifn h0 ?_
   rw [show decide (p ≥ (l.length : Int)) = true from by simp; omega]
   exact hj
mutual
def zAF.l0 : Nat → List Int → List (S24) → Int → Int → Option (List Int)
 | 0,_,_,_,_ => none
 | k + 1,x3,x20,x21,x22 => if x22 < x21 then (if 0 ≤ x22 then (if x22 < (x20.length : Int) then (zAF.l1 k x3 x22 x20 x21 x22 ((rd_T24 x20 x22).f4) (((rd_T24 x20 x22).f4).length : Int) 0) else (none)) else (none)) else (some x3)
def zAF.l1 : Nat → List Int → Int → List (S24) → Int → Int → List Int → Int → Int → Option (List Int)
 | 0,_,_,_,_,_,_,_,_ => none
 | k + 1,x3,x4,x20,x21,x22,x28,x29,x30 => if x30 < x29 then (if 0 ≤ x30 then (if x30 < (x28.length : Int) then (if 0 ≤ (rd x28 x30) then (if (rd x28 x30) < (x3.length : Int) then (zAF.l1 k (x3.set ((rd x28 x30) : Int).toNat x4) x4 x20 x21 x22 x28 x29 (wrap64 (x30 + 1))) else (none)) else (none)) else (none)) else (none)) else (zAF.l0 k x3 x20 x21 (wrap64 (x22 + 1)))
end
def zAF.f (k : Nat) (l0_0 : List (S24)) (a0_1 : Int) : Option (List Int):=(zAJ.f l0_0 a0_1).bind fun t140 => (if t140 = true then (if 0 ≤ (l0_0.length : Int) then (if ((l0_0.length : Int) : Int).toNat ≤ 35184372088832 then ((some (List.replicate ((l0_0.length : Int) : Int).toNat 0 : List Int)).bind fun y141 => (if 0 ≤ a0_1 then (if a0_1 < (y141.length : Int) then (zAF.l0 k (y141.set (a0_1 : Int).toNat (-1)) l0_0 (l0_0.length : Int) 0) else (none)) else (none))) else (none)) else (none)) else (some ([] : List Int)))
set_option maxHeartbeats 8000000 in
set_option maxRecDepth 100000 in
theorem zAF.calls (k : Nat) (A0_0 : Option Addr) (c0_0 : Nat) (l0_0 : List (S24)) (a0_1 : Int) (r : List Int) (w : World) (hr0_0 : Kd.C k24 w A0_0 l0_0.length l0_0) (hc0_0 : l0_0.length ≤ c0_0) (h : zAF.f k l0_0 a0_1 = some r) :
  Calls Try.prog 18 #[.agg #[.slice A0_0 l0_0.length c0_0,.int .i64 a0_1]] w fun e w' => ∃ v0_ : Value,e = .returned (v0_) ∧ Kd.R (Kd.int .i64) 3 w' w.heap.size (fun _ => True) v0_ r ∧ Below w.heap.size w w':=by
 have hu30:=Try.underlying30
 have hu24:=Try.underlying24
 have HR0_0:=Aside0.mk hr0_0
 have HC0_0:=Aside0.mk hc0_0
 clear hr0_0 hc0_0
 have HB:=Aside0.mk (Below.refl w.heap.size w)
 have H : ((zAJ.f l0_0 a0_1).bind fun t140 => (if t140 = true then (if 0 ≤ (l0_0.length : Int) then (if ((l0_0.length : Int) : Int).toNat ≤ 35184372088832 then ((some (List.replicate ((l0_0.length : Int) : Int).toNat 0 : List Int)).bind fun y141 => (if 0 ≤ a0_1 then (if a0_1 < (y141.length : Int) then (zAF.l0 k (y141.set (a0_1 : Int).toNat (-1)) l0_0 (l0_0.length : Int) 0) else (none)) else (none))) else (none)) else (none)) else (some ([] : List Int)))) = some r:=h
 clear h
 replace H:=Option.bind_eq_some_iff.mp H
 obtain ⟨t140,A20,H⟩:=H
 replace H : (if t140 = true then (if 0 ≤ (l0_0.length : Int) then (if ((l0_0.length : Int) : Int).toNat ≤ 35184372088832 then ((some (List.replicate ((l0_0.length : Int) : Int).toNat 0 : List Int)).bind fun y141 => (if 0 ≤ a0_1 then (if a0_1 < (y141.length : Int) then (zAF.l0 k (y141.set (a0_1 : Int).toNat (-1)) l0_0 (l0_0.length : Int) 0) else (none)) else (none))) else (none)) else (none)) else (some ([] : List Int))) = some r:=H
 have A2:=Aside0.mk A20
 clear A20
 by_cases c3 : t140 = true
 ·subst c3
  have H1 : (if 0 ≤ (l0_0.length : Int) then (if ((l0_0.length : Int) : Int).toNat ≤ 35184372088832 then ((some (List.replicate ((l0_0.length : Int) : Int).toNat 0 : List Int)).bind fun y141 => (if 0 ≤ a0_1 then (if a0_1 < (y141.length : Int) then (zAF.l0 k (y141.set (a0_1 : Int).toNat (-1)) l0_0 (l0_0.length : Int) 0) else (none)) else (none))) else (none)) else (none)) = some r:=by rw [if_pos rfl] at H; exact H
  clear H
  have H:=H1
  clear H1
  by_cases c4 : 0 ≤ (l0_0.length : Int)
  ·rw [if_pos c4] at H
   have c4b0:=eq_true c4
   have c4b1 : decide (0 ≤ (l0_0.length : Int)) = true:=decide_eq_true c4
   clear c4
   by_cases c5 : ((l0_0.length : Int) : Int).toNat ≤ 35184372088832
   ·rw [if_pos c5] at H
    have c5b0:=eq_true c5
    have c5b1 : decide (((l0_0.length : Int) : Int).toNat ≤ 35184372088832) = true:=decide_eq_true c5
    clear c5
    obtain ⟨y141,hy141⟩ : ∃ y_ : List Int,y_ = (List.replicate ((l0_0.length : Int) : Int).toNat 0):=⟨_,rfl⟩
    replace H : (if 0 ≤ a0_1 then (if a0_1 < (y141.length : Int) then (zAF.l0 k (y141.set (a0_1 : Int).toNat (-1)) l0_0 (l0_0.length : Int) 0) else (none)) else (none)) = some r:=by first | (rw [hy141]; with_reducible exact H) | (have H2_:=(Option.bind_some _ _).symm.trans H; rw [hy141]; with_reducible exact H2_) | (have H2_:=(Option.bind_some _ _).symm.trans H; with_reducible exact H2_) | with_reducible exact H | (rw [hy141]; exact H) | exact H
    have Ny141:=Aside0.mk hy141
    clear hy141
    by_cases c6 : 0 ≤ a0_1
    ·rw [if_pos c6] at H
     have c6b0 : decide (0 ≤ a0_1) = true:=decide_eq_true c6
     clear c6
     by_cases c7 : a0_1 < (y141.length : Int)
     ·rw [if_pos c7] at H
      have c7b0 : decide (a0_1 < (y141.length : Int)) = true:=decide_eq_true c7
      clear c7
      obtain ⟨y144,hy144⟩ : ∃ y_ : List Int,y_ = (y141.set (a0_1 : Int).toNat (-1)):=⟨_,rfl⟩
      replace H : (zAF.l0 k y144 l0_0 (l0_0.length : Int) 0) = some r:=by first | (rw [hy144]; with_reducible exact H) | (have H2_:=(Option.bind_some _ _).symm.trans H; rw [hy144]; with_reducible exact H2_) | (have H2_:=(Option.bind_some _ _).symm.trans H; with_reducible exact H2_) | with_reducible exact H | (rw [hy144]; exact H) | exact H
      have Ny144:=Aside0.mk hy144
      clear hy144
      have H':=Aside0.mk H
      clear H
      go_enter Try.func18,Try.ntmps18
      go_wp2_with (first | ((with_reducible refine zAM (N:=1) rfl ?_); refine zAL ?hg (N:=1) ?hd (cs:=#[.slice A0_0 l0_0.length c0_0,.int .i64 a0_1]) (t:=30) ?hr ?_; (case hd => rfl); (case hg => rfl); (case hr => first | (go_simp; done) | (go_simp; rfl)); intro gb139 hg w9 hbox hb; have n0_:=Aside0.mk (zAm (by repeat (first | (with_reducible first | exact HB.out | apply zAg | apply zAc | apply zAi) | exact HB.out)) hb); have n1_:=Aside0.mk (hbox); have n2_:=Aside0.mk ((by rw [hg]; exact (zAp (by repeat (first | (with_reducible first | exact HB.out | apply zAg | apply zAc | apply zAi) | exact HB.out))) : w.heap.size ≤ gb139)); have n3_:=Aside0.mk ((by rw [hg]; exact (zAp (by repeat (first | (with_reducible first | exact HB.out | apply zAg | apply zAc | apply zAi) | exact HB.out))) : w.heap.size ≤ gb139)); clear HB; have HB:=n0_; have BK139:=n1_; have GW139:=n2_; have GE139:=n3_; clear n0_ n1_ n2_ n3_; clear hb hbox hg; have hcz10_0 : w9.cell? ⟨gb139,0,none⟩ = some (.slice A0_0 l0_0.length c0_0):=(zAf BK139.out 0).trans rfl; have hcz10_1 : w9.cell? ⟨gb139,1,none⟩ = some (.int .i64 a0_1):=(zAf BK139.out 1).trans rfl; have hfz10_0:=zAe BK139.out 0; have hfz10_1:=zAe BK139.out 1) | ((with_reducible refine zAA (f:=15) rfl ?_); refine goesL_ (some 9) rfl rfl Try.func15 (by kernel_rfl) rfl #[.agg #[.slice A0_0 l0_0.length c0_0,.int .i64 a0_1]] rfl (by (try simp only [List.map_toArray,List.map_cons,List.map_nil]); first | done | rfl | (simp only [List.length_drop,List.length_take]; rfl)) ?_; (with_reducible refine (zAJ.calls _ _ l0_0 a0_1 true _ ?side1 ?side2 A2.out).mono ?_); (case side1 => repeat (first | exact (Kd.C_below HR0_0.out HB.out) | (with_reducible refine Kd.C_alloc ?_ _) | (with_reducible refine Kd.C_drewN ?_ _) | (with_reducible refine Kd.C_drew ?_))); (case side2 => exact HC0_0.out); rintro e w11 ⟨rfl,hb⟩; refine ⟨_,rfl,?_⟩; have n0_:=Aside0.mk (zAs (g:=gb139) (o:=.cells #[.slice A0_0 l0_0.length c0_0,.int .i64 a0_1] 30 (0,0)) (by (with_reducible repeat (first | apply zAb | apply zAd | apply zAa)); exact BK139.out) hb); have n1_:=Aside0.mk (zAm (by repeat (first | (with_reducible first | exact HB.out | apply zAg | apply zAc | apply zAi | refine zAh ?_ GE139.out) | exact HB.out)) hb); clear BK139; clear HB; have BK139:=n0_; have HB:=n1_; clear n0_ n1_; (try clear hb); (try clear hb2); (try clear hk); (try clear hi); have hcz12_0 : w11.cell? ⟨gb139,0,none⟩ = some (.slice A0_0 l0_0.length c0_0):=(zAf BK139.out 0).trans rfl; have hcz12_1 : w11.cell? ⟨gb139,1,none⟩ = some (.int .i64 a0_1):=(zAf BK139.out 1).trans rfl; have hfz12_0:=zAe BK139.out 0; have hfz12_1:=zAe BK139.out 1) | ((with_reducible refine zAM (N:=14) rfl ?_); refine Kd.R_make (Kd.int .i64) _ 3 rfl (N:=14) rfl 22 _ _ rfl (l0_0.length : Int) rfl rfl Try.underlying22 (.int .i64 0) 8 info3 rfl (by decide) (by omega) 0 (ok:=fun _ => True) (okp:=fun _ => True) rfl (fun _ hk => hk) trivial (of_decide_eq_true (by first | (with_reducible assumption) | assumption)) (Nat.le_trans (Nat.mul_le_mul_right _ (of_decide_eq_true (by first | (with_reducible assumption) | assumption) : (l0_0.length : Int).toNat ≤ 35184372088832)) (by omega)) (Below.refl _ _) (Nat.le_refl _) ?_; intro v142 w13 ho14 hb hg_ hnew_; clear hg_ hnew_; (first | rw [← Ny141.out] at ho14 | (simp only [Int.reduceToNat] at ho14; rw [← Ny141.out] at ho14)); have n0_:=Aside0.mk (Kd.R_lower ho14 (zAp (by repeat (first | (with_reducible first | exact HB.out | apply zAg | apply zAc | apply zAi | refine zAh ?_ GE139.out) | exact HB.out)))); have n1_:=Aside0.mk (zAs (g:=gb139) (o:=.cells #[.slice A0_0 l0_0.length c0_0,.int .i64 a0_1] 30 (0,0)) (by (with_reducible repeat (first | apply zAb | apply zAd | apply zAa)); exact BK139.out) hb); have n2_:=Aside0.mk (zAm (by repeat (first | (with_reducible first | exact HB.out | apply zAg | apply zAc | apply zAi | refine zAh ?_ GE139.out) | exact HB.out)) hb); clear BK139; clear HB; have HO143:=n0_; have BK139:=n1_; have HB:=n2_; clear n0_ n1_ n2_; clear hb ho14; have hcz15_0 : w13.cell? ⟨gb139,0,none⟩ = some (.slice A0_0 l0_0.length c0_0):=(zAf BK139.out 0).trans rfl; have hcz15_1 : w13.cell? ⟨gb139,1,none⟩ = some (.int .i64 a0_1):=(zAf BK139.out 1).trans rfl; have hfz15_0:=zAe BK139.out 0; have hfz15_1:=zAe BK139.out 1; have p8 : 0 ≤ (a0_1 : Int):=of_decide_eq_true (by first | (with_reducible assumption) | assumption); have q8 : (a0_1 : Int) < ((y141.length : Int) : Int):=of_decide_eq_true (by first | (with_reducible assumption) | assumption); obtain ⟨go8,co8,eo8,gb8,gl8,cl8,HG8⟩:=Kd.R_form HO143.out (by omega); (first | cases eo8 | (injection eo8 with ea_ en_ ec_; (first | subst ea_ | (injection ea_ with ea_; subst ea_)); subst ec_; clear en_)); have GB8:=Aside0.mk gb8; have GG8:=Aside0.mk HG8; clear gb8 gl8 HG8; obtain ⟨hx8_0,hf8_0⟩:=Kd.R_celln 0 HO143.out (a0_1 : Int) p8 q8; replace p8:=eq_true p8; replace q8:=eq_true q8; obtain ⟨hy16_,hz16_⟩:=Kd.R_celln 0 HO143.out (a0_1 : Int) (of_decide_eq_true (by first | (with_reducible assumption) | assumption)) (of_decide_eq_true (by first | (with_reducible assumption) | assumption)); have HP16:=Kd.R_putg HO143.out (a0_1 : Int) (-1)) | ((with_reducible refine zBt (t:=3) (p:=18) rfl ?_); refine zBo (t:=3) (p:=18) (v:=?vo_w17) (w1:=(w13.setCell ⟨go8,(a0_1 : Int).toNat,none⟩ (.int .i64 (-1)))) ?hg ?ho ?hn ?hr ?_; (case ho => rfl); (case hg => rfl); (case hn => rfl); (case hr => first | (go_simp; done) | (go_simp; rfl)); intro w17 hw; have hg : w13.grownBy w17 (some go8):=(by rw [hw]; exact HP16.2); have hp_ : Kd.R (Kd.int .i64) 3 w17 w.heap.size (fun _ => True) (.slice (some ⟨go8,0,none⟩) y141.length co8) y144:=(by rw [hw,Ny144.out]; exact HP16.1); clear HP16; have n0_:=Aside0.mk (zAU (g:=gb139) (o:=.cells #[.slice A0_0 l0_0.length c0_0,.int .i64 a0_1] 30 (0,0)) (by (with_reducible repeat (first | apply zAb | apply zAd | apply zAa)); exact BK139.out) hg (Kd.R_ne HO143.out BK139.out (by decide))); have n1_:=Aside0.mk (hp_); have n2_:=Aside0.mk ((by rw [hw]; exact zAh (HB.out) GB8.out : Below w.heap.size w w17)); clear BK139; clear HO143; clear HB; have BK139:=n0_; have HO143:=n1_; have HB:=n2_; clear n0_ n1_ n2_; clear hg hw hp_; have hcz18_0 : w17.cell? ⟨gb139,0,none⟩ = some (.slice A0_0 l0_0.length c0_0):=(zAf BK139.out 0).trans rfl; have hcz18_1 : w17.cell? ⟨gb139,1,none⟩ = some (.int .i64 a0_1):=(zAf BK139.out 1).trans rfl; have hfz18_0:=zAe BK139.out 0; have hfz18_1:=zAe BK139.out 1))
      go_loopg [22] k (fun kq v22 w' => ∃ (x3_1 : List Int) (x22_1 : Int),v22 = .int .i64 x22_1 ∧ Aside0 (zAF.l0 kq x3_1 l0_0 (l0_0.length : Int) x22_1 = some r) ∧ Aside0 (kq ≤ k) ∧ Aside0 (Kd.R (Kd.int .i64) 3 w' w.heap.size (fun _ => True) (.slice (some ⟨go8,0,none⟩) y141.length co8) x3_1) ∧ Aside0 (w'.heap[gb139]? = some (.cells #[(.slice A0_0 l0_0.length c0_0),.int .i64 a0_1] 30 (0,0))) ∧ Aside0 (Below w.heap.size w w'))
      case atStart => exact ⟨(y144),(0),(by first | rfl | (simp; done) | (simp [*]; done)),H',⟨Nat.le_refl _⟩,⟨by (with_reducible repeat (first | apply Kd.R_alloc | apply Kd.R_drewN | apply Kd.R_drew)); exact HO143.out⟩,⟨by (with_reducible repeat (first | apply zAb | apply zAd | apply zAa)); exact BK139.out⟩,⟨by repeat (first | (with_reducible first | exact HB.out | apply zAg | apply zAc | apply zAi | refine zAh ?_ GE139.out) | exact HB.out)⟩⟩
      case round =>
       clear H'
       try clear c1
       try clear p2
       try clear c3
       try clear c4
       try clear c4b0
       try clear c4b1
       try clear c5
       try clear c5b0
       try clear c5b1
       try clear c6
       try clear c6b0
       try clear c7
       try clear c7b0
       try clear p8
       try clear q8
       try clear hx8
       try clear hf8
       try clear c15
       try clear c18
       try clear hcz10_0
       try clear hcz10_1
       try clear hcz12_0
       try clear hcz12_1
       try clear hcz15_0
       try clear hcz15_1
       try clear hcz18_0
       try clear hcz18_1
       try clear hfz10_0
       try clear hfz10_1
       try clear hfz12_0
       try clear hfz12_1
       try clear hfz15_0
       try clear hfz15_1
       try clear hfz18_0
       try clear hfz18_1
       try clear hx8_0
       try clear p8
       try clear q8
       obtain ⟨x3_1,x22_1,rfl,HA,HK1,HO_3,BK139,HB⟩:=hrel
       have hl3_1:=(Kd.zAV HO_3.out).1
       rw [hl3_1] at HO_3
       (try simp only [hl3_1])
       (try simp only [hl3_1] at BK139)
       cases gk with
       | zero => exact absurd HA.out (by simp [zAF.l0])
       | succ k1 =>
        have H:=HA.out
        clear HA
        simp only [zAF.l0] at H
        by_cases c19 : x22_1 < (l0_0.length : Int)
        ·rw [if_pos c19] at H
         have c19b0 : decide (x22_1 < (l0_0.length : Int)) = true:=decide_eq_true c19
         clear c19
         by_cases c20 : 0 ≤ x22_1
         ·rw [if_pos c20] at H
          have c20b0 : decide (0 ≤ x22_1) = true:=decide_eq_true c20
          clear c20
          by_cases c21 : x22_1 < (l0_0.length : Int)
          ·rw [if_pos c21] at H
           have c21b0 : decide (x22_1 < (l0_0.length : Int)) = true:=decide_eq_true c21
           clear c21
           have H':=Aside0.mk H
           clear H
           have p145 : 0 ≤ (x22_1 : Int):=of_decide_eq_true (by first | (with_reducible assumption) | assumption)
           have q145 : x22_1 < (l0_0.length : Int):=of_decide_eq_true (by first | (with_reducible assumption) | assumption)
           obtain ⟨ad145,A145_4,c145_4,e145,hx145_0,hx145_1,hx145_2,hx145_3,hx145_4,hl145_4,hi145_4⟩:=at_T24 HR0_0.out x22_1 p145 q145
           cases e145
           replace hx145_0:=(HB.out.cell (World.block_lt_of_cell? w _ hx145_0)).trans hx145_0
           replace hx145_1:=(HB.out.cell (World.block_lt_of_cell? w _ hx145_1)).trans hx145_1
           replace hx145_2:=(HB.out.cell (World.block_lt_of_cell? w _ hx145_2)).trans hx145_2
           replace hx145_3:=(HB.out.cell (World.block_lt_of_cell? w _ hx145_3)).trans hx145_3
           replace hx145_4:=(HB.out.cell (World.block_lt_of_cell? w _ hx145_4)).trans hx145_4
           have HR145_4:=Aside0.mk hi145_4
           have HC145_4:=Aside0.mk hl145_4
           clear hi145_4 hl145_4
           replace p145:=eq_true p145
           replace q145:=eq_true q145
           go_wp2_with (first | ((with_reducible refine zAM (N:=5) rfl ?_); refine zAL ?hg (N:=5) ?hd (cs:=#[.int .i64 0,.int .i64 0,.int .i64 0,.string (⟨#[]⟩ : ByteArray),.slice none 0 0]) (t:=24) ?hr ?_; (case hd => rfl); (case hg => rfl); (case hr => first | (go_simp; done) | (go_simp; rfl)); intro gb146 hg w22 hbox hb; have n0_:=Aside0.mk (Kd.R_below (by (with_reducible repeat (first | apply Kd.R_alloc | apply Kd.R_drewN | apply Kd.R_drew)); exact HO_3.out) hb); have n1_:=Aside0.mk (zAs (g:=gb139) (o:=.cells #[.slice (some ad145) l0_0.length c0_0,.int .i64 a0_1] 30 (0,0)) (by (with_reducible repeat (first | apply zAb | apply zAd | apply zAa)); exact BK139.out) hb); have n2_:=Aside0.mk (zAm (by repeat (first | (with_reducible first | exact HB.out | apply zAg | apply zAc | apply zAi | refine zAh ?_ GE139.out) | exact HB.out)) hb); have n3_:=Aside0.mk (hbox); have n4_:=Aside0.mk ((by rw [hg]; exact (zAp (by repeat (first | (with_reducible first | exact HB.out | apply zAg | apply zAc | apply zAi | refine zAh ?_ GE139.out) | exact HB.out))) : w.heap.size ≤ gb146)); have n5_:=Aside0.mk ((by rw [hg]; exact (zAp (by repeat (first | (with_reducible first | exact HB.out | apply zAg | apply zAc | apply zAi | refine zAh ?_ GE139.out) | exact HB.out))) : w.heap.size ≤ gb146)); have n6_:=Aside0.mk ((by rw [hg]; exact Nat.ne_of_lt (blk_lt (g:=gb139) (o:=.cells #[.slice (some ad145) l0_0.length c0_0,.int .i64 a0_1] 30 (0,0)) (by (with_reducible repeat (first | apply zAb | apply zAd | apply zAa)); exact BK139.out)) : gb139 ≠ gb146)); have n7_:=Aside0.mk ((by rw [hg]; exact Nat.ne_of_gt (blk_lt (g:=gb139) (o:=.cells #[.slice (some ad145) l0_0.length c0_0,.int .i64 a0_1] 30 (0,0)) (by (with_reducible repeat (first | apply zAb | apply zAd | apply zAa)); exact BK139.out)) : gb146 ≠ gb139)); clear HO_3; clear BK139; clear HB; have HO_3:=n0_; have BK139:=n1_; have HB:=n2_; have BK146:=n3_; have GW146:=n4_; have GE146:=n5_; have NB139_146:=n6_; have NB146_139:=n7_; clear n0_ n1_ n2_ n3_ n4_ n5_ n6_ n7_; clear hb hbox hg; have hnb23:=NB146_139.out; have hnc23:=NB139_146.out; have hcz24_0 : w22.cell? ⟨gb146,0,none⟩ = some (.int .i64 0):=(zAf BK146.out 0).trans rfl; have hcz24_1 : w22.cell? ⟨gb146,1,none⟩ = some (.int .i64 0):=(zAf BK146.out 1).trans rfl; have hcz24_2 : w22.cell? ⟨gb146,2,none⟩ = some (.int .i64 0):=(zAf BK146.out 2).trans rfl; have hcz24_3 : w22.cell? ⟨gb146,3,none⟩ = some (.string (⟨#[]⟩ : ByteArray)):=(zAf BK146.out 3).trans rfl; have hcz24_4 : w22.cell? ⟨gb146,4,none⟩ = some (.slice none 0 0):=(zAf BK146.out 4).trans rfl; have hfz24_0:=zAe BK146.out 0; have hfz24_1:=zAe BK146.out 1; have hfz24_2:=zAe BK146.out 2; have hfz24_3:=zAe BK146.out 3; have hfz24_4:=zAe BK146.out 4))
           go_loopg [30] k1 (fun kq v30 w' => ∃ (x3_2 : List Int) (x30_2 : Int),v30 = .int .i64 x30_2 ∧ Aside0 (zAF.l1 kq x3_2 x22_1 l0_0 (l0_0.length : Int) x22_1 ((rd_T24 l0_0 x22_1).f4) (((rd_T24 l0_0 x22_1).f4).length : Int) x30_2 = some r) ∧ Aside0 (kq ≤ k1) ∧ Aside0 (Kd.R (Kd.int .i64) 3 w' w.heap.size (fun _ => True) (.slice (some ⟨go8,0,none⟩) x3_1.length co8) x3_2) ∧ Aside0 (w'.heap[gb139]? = some (.cells #[(.slice (some ad145) l0_0.length c0_0),.int .i64 a0_1] 30 (0,0))) ∧ Aside0 (w'.heap[gb146]? = some (.cells #[.int .i64 ((rd_T24 l0_0 x22_1).f0),.int .i64 ((rd_T24 l0_0 x22_1).f1),.int .i64 ((rd_T24 l0_0 x22_1).f2),.string ((rd_T24 l0_0 x22_1).f3),(.slice A145_4 ((rd_T24 l0_0 x22_1).f4).length c145_4)] 24 (0,0))) ∧ Aside0 (Below w.heap.size w w'))
           case atStart => exact ⟨(x3_1),(0),(by first | rfl | (simp; done) | (simp [*]; done)),H',⟨Nat.le_refl _⟩,⟨by (try simp only [hl3_1]); (with_reducible repeat (first | apply Kd.R_alloc | apply Kd.R_drewN | apply Kd.R_drew)); exact Kd.R_mono (Kd.R_far (p:=⟨gb146,4,none⟩) (Kd.R_far (p:=⟨gb146,3,none⟩) (Kd.R_far (p:=⟨gb146,2,none⟩) (Kd.R_far (p:=⟨gb146,1,none⟩) (Kd.R_far (p:=⟨gb146,0,none⟩) (Kd.R_types HO_3.out BK146.out (by decide)) (fun _ hk => hk.2) (.int .i64 ((rd_T24 l0_0 x22_1).f0))) (fun _ hk => hk.2) (.int .i64 ((rd_T24 l0_0 x22_1).f1))) (fun _ hk => hk.2) (.int .i64 ((rd_T24 l0_0 x22_1).f2))) (fun _ hk => hk.2) (.string ((rd_T24 l0_0 x22_1).f3))) (fun _ hk => hk.2) (.slice A145_4 ((rd_T24 l0_0 x22_1).f4).length c145_4)) (fun _ hk => trivial)⟩,⟨by (try simp only [hl3_1]); (with_reducible repeat (first | apply zAb | apply zAd | apply zAa)); refine blk_far ?_ NB139_146.out _; (with_reducible repeat (first | apply zAb | apply zAd | apply zAa)); refine blk_far ?_ NB139_146.out _; (with_reducible repeat (first | apply zAb | apply zAd | apply zAa)); refine blk_far ?_ NB139_146.out _; (with_reducible repeat (first | apply zAb | apply zAd | apply zAa)); refine blk_far ?_ NB139_146.out _; (with_reducible repeat (first | apply zAb | apply zAd | apply zAa)); refine blk_far ?_ NB139_146.out _; (with_reducible repeat (first | apply zAb | apply zAd | apply zAa)); exact BK139.out⟩,⟨by (try simp only [hl3_1]); (with_reducible repeat (first | apply zAb | apply zAd | apply zAa)); refine blk_put (cs:=#[.int .i64 ((rd_T24 l0_0 x22_1).f0),.int .i64 ((rd_T24 l0_0 x22_1).f1),.int .i64 ((rd_T24 l0_0 x22_1).f2),.string ((rd_T24 l0_0 x22_1).f3),.slice none 0 0]) ?_ 4 _ rfl; (with_reducible repeat (first | apply zAb | apply zAd | apply zAa)); refine blk_put (cs:=#[.int .i64 ((rd_T24 l0_0 x22_1).f0),.int .i64 ((rd_T24 l0_0 x22_1).f1),.int .i64 ((rd_T24 l0_0 x22_1).f2),.string (⟨#[]⟩ : ByteArray),.slice none 0 0]) ?_ 3 _ rfl; (with_reducible repeat (first | apply zAb | apply zAd | apply zAa)); refine blk_put (cs:=#[.int .i64 ((rd_T24 l0_0 x22_1).f0),.int .i64 ((rd_T24 l0_0 x22_1).f1),.int .i64 0,.string (⟨#[]⟩ : ByteArray),.slice none 0 0]) ?_ 2 _ rfl; (with_reducible repeat (first | apply zAb | apply zAd | apply zAa)); refine blk_put (cs:=#[.int .i64 ((rd_T24 l0_0 x22_1).f0),.int .i64 0,.int .i64 0,.string (⟨#[]⟩ : ByteArray),.slice none 0 0]) ?_ 1 _ rfl; (with_reducible repeat (first | apply zAb | apply zAd | apply zAa)); refine blk_put (cs:=#[.int .i64 0,.int .i64 0,.int .i64 0,.string (⟨#[]⟩ : ByteArray),.slice none 0 0]) ?_ 0 _ rfl; (with_reducible repeat (first | apply zAb | apply zAd | apply zAa)); exact BK146.out⟩,⟨by repeat (first | (with_reducible first | exact HB.out | apply zAg | apply zAc | apply zAi | refine zAh ?_ GE139.out | refine zAh ?_ GE146.out) | exact HB.out)⟩⟩
           case round =>
            clear H'
            try clear c1
            try clear p1
            try clear q1
            try clear hx1
            try clear c2
            try clear p2
            try clear c3
            try clear c4
            try clear c4b0
            try clear c4b1
            try clear c5
            try clear c5b0
            try clear c5b1
            try clear c6
            try clear c6b0
            try clear c7
            try clear c7b0
            try clear p8
            try clear q8
            try clear hx8
            try clear hf8
            try clear c14
            try clear p14
            try clear q14
            try clear hx14
            try clear c15
            try clear c18
            try clear c19
            try clear c19b0
            try clear c20
            try clear c20b0
            try clear c21
            try clear c21b0
            try clear c23
            try clear hcz10_0
            try clear hcz10_1
            try clear hcz12_0
            try clear hcz12_1
            try clear hcz15_0
            try clear hcz15_1
            try clear hcz18_0
            try clear hcz18_1
            try clear hcz24_0
            try clear hcz24_1
            try clear hcz24_2
            try clear hcz24_3
            try clear hcz24_4
            try clear hfz10_0
            try clear hfz10_1
            try clear hfz12_0
            try clear hfz12_1
            try clear hfz15_0
            try clear hfz15_1
            try clear hfz18_0
            try clear hfz18_1
            try clear hfz24_0
            try clear hfz24_1
            try clear hfz24_2
            try clear hfz24_3
            try clear hfz24_4
            try clear hx145_0
            try clear hx145_1
            try clear hx145_2
            try clear hx145_3
            try clear hx145_4
            try clear hx8_0
            try clear p145
            try clear p2
            try clear p8
            try clear q145
            try clear q8
            obtain ⟨x3_2,x30_2,rfl,HA,HK2,HO_3,BK139,BK146,HB⟩:=hrel
            have hl3_2:=(Kd.zAV HO_3.out).1
            rw [hl3_2] at HO_3
            (try simp only [hl3_2])
            (try simp only [hl3_2] at BK139)
            (try simp only [hl3_2] at BK146)
            cases gk with
            | zero => exact absurd HA.out (by simp [zAF.l1])
            | succ k2 =>
             have H:=HA.out
             clear HA
             simp only [zAF.l1] at H
             by_cases c25 : x30_2 < (((rd_T24 l0_0 x22_1).f4).length : Int)
             ·rw [if_pos c25] at H
              have c25b0 : decide (x30_2 < (((rd_T24 l0_0 x22_1).f4).length : Int)) = true:=decide_eq_true c25
              clear c25
              by_cases c26 : 0 ≤ x30_2
              ·rw [if_pos c26] at H
               have c26b0 : decide (0 ≤ x30_2) = true:=decide_eq_true c26
               clear c26
               by_cases c27 : x30_2 < (((rd_T24 l0_0 x22_1).f4).length : Int)
               ·rw [if_pos c27] at H
                have c27b0 : decide (x30_2 < (((rd_T24 l0_0 x22_1).f4).length : Int)) = true:=decide_eq_true c27
                clear c27
                by_cases c28 : 0 ≤ (rd ((rd_T24 l0_0 x22_1).f4) x30_2)
                ·rw [if_pos c28] at H
                 have c28b0 : decide (0 ≤ (rd ((rd_T24 l0_0 x22_1).f4) x30_2)) = true:=decide_eq_true c28
                 clear c28
                 by_cases c29 : (rd ((rd_T24 l0_0 x22_1).f4) x30_2) < (x3_2.length : Int)
                 ·rw [if_pos c29] at H
                  have c29b0 : decide ((rd ((rd_T24 l0_0 x22_1).f4) x30_2) < (x3_2.length : Int)) = true:=decide_eq_true c29
                  clear c29
                  obtain ⟨y148,hy148⟩ : ∃ y_ : List Int,y_ = (x3_2.set ((rd ((rd_T24 l0_0 x22_1).f4) x30_2) : Int).toNat x22_1):=⟨_,rfl⟩
                  replace H : (zAF.l1 k2 y148 x22_1 l0_0 (l0_0.length : Int) x22_1 ((rd_T24 l0_0 x22_1).f4) (((rd_T24 l0_0 x22_1).f4).length : Int) (wrap64 (x30_2 + 1))) = some r:=by first | (rw [hy148]; with_reducible exact H) | (have H2_:=(Option.bind_some _ _).symm.trans H; rw [hy148]; with_reducible exact H2_) | (have H2_:=(Option.bind_some _ _).symm.trans H; with_reducible exact H2_) | with_reducible exact H | (rw [hy148]; exact H) | exact H
                  have Ny148:=Aside0.mk hy148
                  clear hy148
                  have H':=Aside0.mk H
                  clear H
                  have p147 : 0 ≤ (x30_2 : Int):=of_decide_eq_true (by first | (with_reducible assumption) | assumption)
                  have q147 : x30_2 < (((rd_T24 l0_0 x22_1).f4).length : Int):=of_decide_eq_true (by first | (with_reducible assumption) | assumption)
                  obtain ⟨ad147,e147,hx147_0⟩:=Kd.at_int HR145_4.out x30_2 p147 q147
                  cases e147
                  replace hx147_0:=(HB.out.cell (World.block_lt_of_cell? w _ hx147_0)).trans hx147_0
                  replace p147:=eq_true p147
                  replace q147:=eq_true q147
                  have p30 : 0 ≤ ((rd ((rd_T24 l0_0 x22_1).f4) x30_2) : Int):=of_decide_eq_true (by first | (with_reducible assumption) | assumption)
                  have q30 : ((rd ((rd_T24 l0_0 x22_1).f4) x30_2) : Int) < ((x3_2.length : Int) : Int):=of_decide_eq_true (by first | (with_reducible assumption) | assumption)
                  obtain ⟨hx30_0,hf30_0⟩:=Kd.R_celln 0 HO_3.out ((rd ((rd_T24 l0_0 x22_1).f4) x30_2) : Int) p30 q30
                  replace p30:=eq_true p30
                  replace q30:=eq_true q30
                  have HP31:=Kd.R_putg HO_3.out ((rd ((rd_T24 l0_0 x22_1).f4) x30_2) : Int) x22_1
                  go_wp2_with (first | ((with_reducible refine zBt (t:=3) (p:=37) rfl ?_); refine zBo (t:=3) (p:=37) (v:=?vo_w32) (w1:=(wr.setCell ⟨go8,((rd ((rd_T24 l0_0 x22_1).f4) x30_2) : Int).toNat,none⟩ (.int .i64 x22_1))) ?hg ?ho ?hn ?hr ?_; (case ho => rfl); (case hg => rfl); (case hn => rfl); (case hr => first | (go_simp; done) | (go_simp; rfl)); intro w32 hw; have hg : wr.grownBy w32 (some go8):=(by rw [hw]; exact HP31.2); have hp_ : Kd.R (Kd.int .i64) 3 w32 w.heap.size (fun _ => True) (.slice (some ⟨go8,0,none⟩) x3_2.length co8) y148:=(by rw [hw,Ny148.out]; exact HP31.1); clear HP31; have n0_:=Aside0.mk (hp_); have n1_:=Aside0.mk (zAU (g:=gb139) (o:=.cells #[.slice (some ad145) l0_0.length c0_0,.int .i64 a0_1] 30 (0,0)) (by (with_reducible repeat (first | apply zAb | apply zAd | apply zAa)); exact BK139.out) hg (Kd.R_ne HO_3.out BK139.out (by decide))); have n2_:=Aside0.mk (zAU (g:=gb146) (o:=.cells #[.int .i64 ((rd_T24 l0_0 x22_1).f0),.int .i64 ((rd_T24 l0_0 x22_1).f1),.int .i64 ((rd_T24 l0_0 x22_1).f2),.string ((rd_T24 l0_0 x22_1).f3),.slice (some ad147) ((rd_T24 l0_0 x22_1).f4).length c145_4] 24 (0,0)) (by (with_reducible repeat (first | apply zAb | apply zAd | apply zAa)); exact BK146.out) hg (Kd.R_ne HO_3.out BK146.out (by decide))); have n3_:=Aside0.mk ((by rw [hw]; exact zAh (HB.out) GB8.out : Below w.heap.size w w32)); clear HO_3; clear BK139; clear BK146; clear HB; have HO_3:=n0_; have BK139:=n1_; have BK146:=n2_; have HB:=n3_; clear n0_ n1_ n2_ n3_; clear hg hw hp_))
                  (try simp only [← hl3_2])
                  go_roundg k2
                  case measure => have:=HK1.out; have:=HK2.out; omega
                  case rel => exact ⟨(y148),(wrap64 (x30_2 + 1)),(by first | rfl | (simp; done) | (simp [*]; done)),H',⟨by have:=HK1.out; have:=HK2.out; omega⟩,⟨by (try simp only [hl3_1]); (try simp only [hl3_2]); (with_reducible repeat (first | apply Kd.R_alloc | apply Kd.R_drewN | apply Kd.R_drew)); exact HO_3.out⟩,⟨by (try simp only [hl3_1]); (try simp only [hl3_2]); (with_reducible repeat (first | apply zAb | apply zAd | apply zAa)); exact BK139.out⟩,⟨by (try simp only [hl3_1]); (try simp only [hl3_2]); (with_reducible repeat (first | apply zAb | apply zAd | apply zAa)); exact BK146.out⟩,⟨by repeat (first | (with_reducible first | exact HB.out | apply zAg | apply zAc | apply zAi | refine zAh ?_ GE139.out | refine zAh ?_ GE146.out) | exact HB.out)⟩⟩
                 ·rw [if_neg c29] at H
                  exact absurd H (by simp)
                ·rw [if_neg c28] at H
                 exact absurd H (by simp)
               ·rw [if_neg c27] at H
                exact absurd H (by simp)
              ·rw [if_neg c26] at H
               exact absurd H (by simp)
             ·rw [if_neg c25] at H
              have c25b0 : decide (x30_2 < (((rd_T24 l0_0 x22_1).f4).length : Int)) = false:=decide_eq_false c25
              clear c25
              have H':=Aside0.mk H
              clear H
              go_wp2
              (try simp only [← hl3_1,← hl3_2])
              go_roundg k2
              case measure => have:=HK1.out; have:=HK2.out; omega
              case rel => exact ⟨(x3_2),(wrap64 (x22_1 + 1)),(by first | rfl | (simp; done) | (simp [*]; done)),H',⟨by have:=HK1.out; have:=HK2.out; omega⟩,⟨by (try simp only [hl3_1]); (try simp only [hl3_2]); (with_reducible repeat (first | apply Kd.R_alloc | apply Kd.R_drewN | apply Kd.R_drew)); exact HO_3.out⟩,⟨by (try simp only [hl3_1]); (try simp only [hl3_2]); (with_reducible repeat (first | apply zAb | apply zAd | apply zAa)); exact BK139.out⟩,⟨by repeat (first | (with_reducible first | exact HB.out | apply zAg | apply zAc | apply zAi | refine zAh ?_ GE139.out | refine zAh ?_ GE146.out) | exact HB.out)⟩⟩
          ·rw [if_neg c21] at H
           exact absurd H (by simp)
         ·rw [if_neg c20] at H
          exact absurd H (by simp)
        ·rw [if_neg c19] at H
         have c19b0 : decide (x22_1 < (l0_0.length : Int)) = false:=decide_eq_false c19
         clear c19
         obtain rfl:=Option.some.inj H
         go_wp2
         go_ret
         exact ⟨_,by first | rfl | (simp [zAo,zAn] <;> rfl) | (simp [*,zAo,zAn] <;> rfl),by (with_reducible repeat (first | apply Kd.R_alloc | apply Kd.R_drewN | apply Kd.R_drew)); exact HO_3.out,by repeat (first | (with_reducible first | exact HB.out | apply zAg | apply zAc | apply zAi | refine zAh ?_ GE139.out) | exact HB.out)⟩
     ·rw [if_neg c7] at H
      exact absurd H (by simp)
    ·rw [if_neg c6] at H
     exact absurd H (by simp)
   ·rw [if_neg c5] at H
    exact absurd H (by simp)
  ·rw [if_neg c4] at H
   exact absurd H (by simp)
 ·replace c3:=Bool.eq_false_iff.mpr c3
  subst c3
  have H1 : (some ([] : List Int)) = some r:=by rw [if_neg (show ¬ (false = true) by decide)] at H; exact H
  clear H
  have H:=H1
  clear H1
  obtain rfl:=Option.some.inj H
  go_enter Try.func18,Try.ntmps18
  go_wp2_with (first | ((with_reducible refine zAM (N:=1) rfl ?_); refine zAL ?hg (N:=1) ?hd (cs:=#[.slice A0_0 l0_0.length c0_0,.int .i64 a0_1]) (t:=30) ?hr ?_; (case hd => rfl); (case hg => rfl); (case hr => first | (go_simp; done) | (go_simp; rfl)); intro gb139 hg w33 hbox hb; have n0_:=Aside0.mk (zAm (by repeat (first | (with_reducible first | exact HB.out | apply zAg | apply zAc | apply zAi) | exact HB.out)) hb); have n1_:=Aside0.mk (hbox); have n2_:=Aside0.mk ((by rw [hg]; exact (zAp (by repeat (first | (with_reducible first | exact HB.out | apply zAg | apply zAc | apply zAi) | exact HB.out))) : w.heap.size ≤ gb139)); have n3_:=Aside0.mk ((by rw [hg]; exact (zAp (by repeat (first | (with_reducible first | exact HB.out | apply zAg | apply zAc | apply zAi) | exact HB.out))) : w.heap.size ≤ gb139)); clear HB; have HB:=n0_; have BK139:=n1_; have GW139:=n2_; have GE139:=n3_; clear n0_ n1_ n2_ n3_; clear hb hbox hg; have hcz34_0 : w33.cell? ⟨gb139,0,none⟩ = some (.slice A0_0 l0_0.length c0_0):=(zAf BK139.out 0).trans rfl; have hcz34_1 : w33.cell? ⟨gb139,1,none⟩ = some (.int .i64 a0_1):=(zAf BK139.out 1).trans rfl; have hfz34_0:=zAe BK139.out 0; have hfz34_1:=zAe BK139.out 1) | ((with_reducible refine zAA (f:=15) rfl ?_); refine goesL_ (some 9) rfl rfl Try.func15 (by kernel_rfl) rfl #[.agg #[.slice A0_0 l0_0.length c0_0,.int .i64 a0_1]] rfl (by (try simp only [List.map_toArray,List.map_cons,List.map_nil]); first | done | rfl | (simp only [List.length_drop,List.length_take]; rfl)) ?_; (with_reducible refine (zAJ.calls _ _ l0_0 a0_1 false _ ?side1 ?side2 A2.out).mono ?_); (case side1 => repeat (first | exact (Kd.C_below HR0_0.out HB.out) | (with_reducible refine Kd.C_alloc ?_ _) | (with_reducible refine Kd.C_drewN ?_ _) | (with_reducible refine Kd.C_drew ?_))); (case side2 => exact HC0_0.out); rintro e w35 ⟨rfl,hb⟩; refine ⟨_,rfl,?_⟩; have n0_:=Aside0.mk (zAs (g:=gb139) (o:=.cells #[.slice A0_0 l0_0.length c0_0,.int .i64 a0_1] 30 (0,0)) (by (with_reducible repeat (first | apply zAb | apply zAd | apply zAa)); exact BK139.out) hb); have n1_:=Aside0.mk (zAm (by repeat (first | (with_reducible first | exact HB.out | apply zAg | apply zAc | apply zAi | refine zAh ?_ GE139.out) | exact HB.out)) hb); clear BK139; clear HB; have BK139:=n0_; have HB:=n1_; clear n0_ n1_; (try clear hb); (try clear hb2); (try clear hk); (try clear hi)))
  go_ret
  exact ⟨_,by first | rfl | (simp [zAo,zAn] <;> rfl) | (simp [*,zAo,zAn] <;> rfl),by first | exact Kd.R_nil _ _ _ _ _ | exact Kd.N_nil _ _ _ _ _ | exact Kd.V_nil _ _ _ _ _ | exact Kd.Q_nil _ _ _ _ _ | exact Kd.S_nil _ _ _ _ _,by repeat (first | (with_reducible first | exact HB.out | apply zAg | apply zAc | apply zAi | refine zAh ?_ GE139.out) | exact HB.out)⟩
def setK (i : Int) : List Int → List Int → List Int
 | acc,[] => acc
 | acc,k :: ks => setK i (acc.set k.toNat i) ks
def parF : List S24 → Nat → List Int → List Int
 | [],_,acc => acc
 | n :: ns,i,acc => parF ns (i + 1) (setK (i : Int) acc n.f4)
theorem zCo (i : Int) : ∀ (ks acc : List Int),(setK i acc ks).length = acc.length
 | [],acc => rfl
 | k :: ks,acc => by rw [setK,zCo i ks]; simp
theorem par_l1 (ns : List S24) (i : Nat) (hi : i < 1000000) (ks : List Int) (hk : ks.length < 1000000) (res : List Int) : ∀ (d j : Nat) (acc : List Int),j + d = ks.length → (∀ k ∈ ks,0 ≤ k ∧ k < (acc.length : Int)) →
  Ev (fun k => zAF.l0 k (setK (i : Int) acc (ks.drop j)) ns (ns.length : Int) ((i + 1 : Nat) : Int)) res →
  Ev (fun k => zAF.l1 k acc (i : Int) ns (ns.length : Int) (i : Int) ks (ks.length : Int) (j : Int)) res
 | 0,j,acc,hd,hb,h => by
  rw [List.drop_of_length_le (by omega),setK] at h
  exact Ev.step (fun k => by simp only [zAF.l1]; rw [if_neg (by omega),wrapS i (by omega)]) h
 | d + 1,j,acc,hd,hb,h => by
  have hj : j < ks.length:=by omega
  rw [List.drop_eq_getElem_cons hj,setK] at h
  have hkj:=hb ks[j] (List.getElem_mem hj)
  refine Ev.step (fun k => by simp only [zAF.l1]; rw [if_pos (by omega),if_pos (by omega),if_pos (by omega),rdN ks j hj,if_pos hkj.1,if_pos hkj.2,wrapS j (by omega)]) ?_
  exact par_l1 ns i hi ks hk res d (j + 1) _ (by omega) (fun k hk => by rw [List.length_set]; exact hb k hk) h
theorem par_l0 (ns : List S24) (hn : ns.length < 1000000) (N : Nat) (hk : ∀ x ∈ ns,x.f4.length < 1000000 ∧ ∀ k ∈ x.f4,0 ≤ k ∧ k < (N : Int)) : ∀ (d i : Nat) (acc : List Int),i + d = ns.length → acc.length = N →
  Ev (fun k => zAF.l0 k acc ns (ns.length : Int) (i : Int)) (parF (ns.drop i) i acc)
 | 0,i,acc,hd,ha => by
  rw [List.drop_of_length_le (by omega),parF]
  exact Ev.step (fun k => by simp only [zAF.l0]; rw [if_neg (by omega)]) (Ev.now _)
 | d + 1,i,acc,hd,ha => by
  have hi : i < ns.length:=by omega
  have hx:=hk ns[i] (List.getElem_mem hi)
  rw [List.drop_eq_getElem_cons hi,parF]
  refine Ev.step (fun k => by simp only [zAF.l0]; rw [if_pos (by omega),if_pos (by omega),if_pos (by omega),rdT24 ns i hi]) ?_
  refine par_l1 ns i (by omega) ns[i].f4 hx.1 _ ns[i].f4.length 0 acc (by omega) (fun k h => by rw [ha]; exact hx.2 k h) ?_
  rw [List.drop_zero]
  exact par_l0 ns hn N hk d (i + 1) _ (by omega) (by rw [zCo]; exact ha)
theorem rd_set (l : List Int) (k j : Nat) (v : Int) (hj : j < l.length) : rd (l.set k v) (j : Int) = if k = j then v else rd l (j : Int):=by
 rw [rdN _ j (by simpa using hj),rdN _ j hj,List.getElem_set]
theorem zCt : ∀ (ts : List RT) (o : Nat) (k : Int),k ∈ RT.roots o ts → (o : Int) ≤ k ∧ k < (o : Int) + RT.sizes ts
 | [],o,k,h => by simp [RT.roots] at h
 | t :: ts,o,k,h => by
  have hp:=RT.size_pos t
  rw [RT.roots] at h
  rw [RT.sizes]
  rcases List.mem_cons.1 h with rfl | h
  ·omega
  ·have:=zCt ts (o + t.size) k h; omega
theorem node_at (T : RT) (i : Nat) (hi : i < T.size) : ∃ (x : S24) (ks : List RT) (o : Nat),rd_T24 (RT.flat 0 T) (i : Int) = { x with f4:=RT.roots o ks } ∧ o + RT.sizes ks = i:=by
 have hat : AtT (RT.flat 0 T) 0 T:=by unfold AtT; rw [List.drop_zero,← RT.flat_len 0 T,List.take_length]
 obtain ⟨t,o',hs,_⟩:=subAt (RT.flat 0 T) T 0 i hat hi
 have hroot:=hs.root
 have htp:=RT.size_pos t
 cases t with
 | node y ks =>
  have:=zCa hs.at_
  rw [RT.size] at hroot
  refine ⟨y,ks,o',?_,by omega⟩
  rw [← this,RT.size]
  congr 1
  omega
end Go.Proofs.Ytpggidmpkhmijaa.P
