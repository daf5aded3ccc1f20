import Derived.Test.YtkhlfdcjgooogaaGreatWMore
import Derived.Test.YtkhlfdcjgooogaaGreatTyT
import Derived.Test.YtkhlfdcjgooogaaGreatTyQ
set_option maxRecDepth 100000
set_option maxHeartbeats 16000000
set_option linter.unusedVariables false
set_option linter.unusedSimpArgs false
set_option linter.unusedSectionVars false
namespace Go.Proofs.YtkhlfdcjgooogaaGreat.P
open Go.RowKit Go.Proofs.YtkhlfdcjgooogaaGreatW.PrintWords Go.Proofs.YtkhlfdcjgooogaaGreatW.PrintLast Go.Proofs.YtkhlfdcjgooogaaGreatW.PrintMore
theorem zCK {α : Type} (l : List α) (j : Nat) (h : j < l.length) : l.take (j + 1) = l.take j ++ [l[j]]:=List.take_succ_eq_append_getElem h
theorem rroots_snoc (o : Nat) (ks : List RT) (j : Nat) (h : j < ks.length) : ∃ hr : j < (RT.roots o ks).length,(RT.roots o ks)[j] = ((o + RT.sizes (ks.take j) : Nat) : Int) + (ks[j].size : Int) - 1:=by
 induction ks generalizing o j with
 | nil => simp at h
 | cons t ts ih =>
  cases j with
  | zero => exact ⟨by simp [RT.roots],by simp [RT.roots,RT.sizes]⟩
  | succ j =>
   obtain ⟨h1,h2⟩:=ih (o + t.size) j (by simpa using h)
   refine ⟨by simpa [RT.roots] using h1,?_⟩
   simp only [RT.roots,List.getElem_cons_succ,List.take_succ_cons,RT.sizes]
   rw [h2]
   omega
theorem rsizes_snoc (ks : List RT) (j : Nat) (h : j < ks.length) : RT.sizes (ks.take (j + 1)) = RT.sizes (ks.take j) + ks[j].size:=by
 rw [zCK ks j h,RT.sizes_append]
 simp [RT.sizes]
theorem begL_roots (f : Int → Int) (o : Nat) (ks : List RT) (H : ∀ j (h : j < ks.length),f (((o + RT.sizes (ks.take j) : Nat) : Int) + (ks[j].size : Int) - 1) = ((o + RT.sizes (ks.take j) : Nat) : Int)) :
  ∀ j,j ≤ ks.length → begL f ((RT.roots o ks).take j).reverse ((o + RT.sizes (ks.take j) : Nat) : Int) = (o : Int)
 | 0,hj => by simp [begL,RT.sizes]
 | j + 1,hj => by
  have hjl : j < ks.length:=by omega
  obtain ⟨h1,h2⟩:=rroots_snoc o ks j hjl
  have hs:=rsizes_snoc ks j hjl
  have hp:=RT.size_pos ks[j]
  rw [zCK _ j h1,List.reverse_append,List.reverse_singleton,List.singleton_append,begL,h2,if_pos ⟨by omega,by omega⟩,H j hjl,if_neg (by omega)]
  exact begL_roots f o ks H j (by omega)
mutual
theorem rbeg_at (ns : List S66) : ∀ (t : RT) (o n : Nat),AtT ns o t → o + t.size ≤ n → begF ns n ((o : Int) + t.size - 1) = (o : Int)
 | .node x ks,o,n,h,hn => by
  obtain ⟨hF,hl,hx⟩:=h.kids
  obtain ⟨m,rfl⟩ : ∃ m,n = m + 1:=⟨n - 1,by rw [RT.size] at hn; omega⟩
  have he : ((o : Int) + ((RT.node x ks).size : Nat) - 1) = ((o + RT.sizes ks : Nat) : Int):=by rw [RT.size]; omega
  rw [he,begF,rdT24 ns _ hl,hx]
  have H:=begL_roots (begF ns m) o ks (fun j hj => rbeg_ats ns ks o m hF (by omega) (by rw [RT.size] at hn; omega) j hj) ks.length (Nat.le_refl _)
  rw [List.take_length,← RT.roots_len o ks,List.take_length] at H
  exact H
theorem rbeg_ats (ns : List S66) : ∀ (ks : List RT) (o m : Nat),AtF ns o ks → o ≤ ns.length → o + RT.sizes ks ≤ m → ∀ j (h : j < ks.length),begF ns m (((o + RT.sizes (ks.take j) : Nat) : Int) + (ks[j].size : Int) - 1) = ((o + RT.sizes (ks.take j) : Nat) : Int)
 | [],o,m,h,ho,hm,j,hj => by simp at hj
 | t :: ts,o,m,h,ho,hm,0,hj => by
  rw [RT.sizes] at hm
  simpa [RT.sizes] using rbeg_at ns t o m (h.head ho).1 (by omega)
 | t :: ts,o,m,h,ho,hm,j + 1,hj => by
  have h2:=h.head ho
  rw [RT.sizes] at hm
  have H:=rbeg_ats ns ts (o + t.size) m h2.2 h2.1.le (by omega) j (by simpa using hj)
  simp only [List.take_succ_cons,List.getElem_cons_succ,RT.sizes]
  rw [show o + (t.size + RT.sizes (ts.take j)) = o + t.size + RT.sizes (ts.take j) from by omega]
  exact H
end
theorem rbeg_loop (ns : List S66) (f : Int → Int) (i : Nat) (kids : List Int) (IH : ∀ p : Nat,p < i → f p = -1 ∨ ∃ t o,f p = ((o : Nat) : Int) ∧ AtT ns o t ∧ o + t.size = p + 1) :
  ∀ (j o : Nat) (ts : List RT),j ≤ kids.length → o ≤ i → AtF ns o ts → begL f (kids.take j).reverse o = -1 ∨ ∃ o' ts',begL f (kids.take j).reverse o = ((o' : Nat) : Int) ∧ o' ≤ o ∧ AtF ns o' ts' ∧ RT.roots o' ts' = kids.take j ++ RT.roots o ts ∧ o' + RT.sizes ts' = o + RT.sizes ts
 | 0,o,ts,hj,ho,hF => .inr ⟨o,ts,by simp [begL],Nat.le_refl _,hF,by simp,rfl⟩
 | j + 1,o,ts,hj,ho,hF => by
  have hjl : j < kids.length:=by omega
  rw [zCK kids j hjl,List.reverse_append,List.reverse_singleton,List.singleton_append,begL]
  by_cases hc : kids[j] = (o : Int) - 1 ∧ 0 ≤ kids[j]
  ·rw [if_pos hc]
   have hk : kids[j] = ((o - 1 : Nat) : Int):=by omega
   rw [hk]
   rcases IH (o - 1) (by omega) with e | ⟨t,o1,e,hat,hsz⟩
   ·rw [e,if_pos (by decide)]; exact .inl rfl
   ·rw [e,if_neg (by omega)]
    have hso : o1 + t.size = o:=by omega
    have hF2 : AtF ns o1 (t :: ts):=AtF.cons hat (by rw [hso]; exact hF)
    rcases rbeg_loop ns f i kids IH j o1 (t :: ts) (by omega) (by omega) hF2 with h | ⟨o',ts',h1,h2,h3,h4,h5⟩
    ·exact .inl h
    ·refine .inr ⟨o',ts',h1,by omega,h3,?_,by rw [h5,RT.sizes]; omega⟩
     rw [h4,RT.roots,hso,List.append_assoc,List.singleton_append,show ((o1 : Int) + (t.size : Int) - 1) = ((o - 1 : Nat) : Int) from by omega]
  ·rw [if_neg hc]; exact .inl rfl
theorem rbeg_any (ns : List S66) : ∀ (n p : Nat),p < n → p < ns.length → begF ns n p = -1 ∨ ∃ t o,begF ns n p = ((o : Nat) : Int) ∧ AtT ns o t ∧ o + t.size = p + 1
 | 0,p,h,_ => absurd h (Nat.not_lt_zero _)
 | n + 1,p,h,hp => by
  have e : begF ns (n + 1) p = begL (begF ns n) (ns[p].f4.take ns[p].f4.length).reverse p:=by rw [begF,rdT24 ns p hp,List.take_length]
  rw [e]
  rcases rbeg_loop ns (begF ns n) p ns[p].f4 (fun q hq => rbeg_any ns n q (by omega) (by omega)) ns[p].f4.length p [] (Nat.le_refl _) (Nat.le_refl _) (AtF.nil _ _) with h | ⟨o,ts,h1,h2,h3,h4,h5⟩
  ·exact .inl h
  ·simp only [RT.sizes,Nat.add_zero,RT.roots,List.append_nil,List.take_length] at h4 h5
   exact .inr ⟨.node ns[p] ts,o,h1,AtT.node h3 (by omega) (by simp only [h5,h4]),by rw [RT.size]; omega⟩
structure SndG (ns : List S66) (root : Int) : Prop where
 n1 : 1 ≤ ns.length
 n4 : ns.length ≤ 4000
 rt : root = (ns.length : Int) - 1
 rg : ∀ i (h : i < ns.length),∀ k ∈ ns[i].f4,0 ≤ k ∧ k < (i : Int)
 bg : begF ns ns.length ((ns.length : Int) - 1) = 0
theorem snd_iff {ns : List S66} {root : Int} {b : Bool} (hb : zAE.f ns root = some b) : b = true ↔ SndG ns root:=by
 constructor
 ·rintro rfl
  rcases zBo ns root with h | ⟨T,rfl,hT,rfl⟩
  ·rw [hb] at h; cases h
  ·have hfl:=RT.flat_len 0 T
   have hp:=RT.size_pos T
   have hat : AtT (RT.flat 0 T) 0 T:=by unfold AtT; rw [List.drop_zero,← RT.flat_len 0 T,List.take_length]
   have hv:=rbeg_at (RT.flat 0 T) T 0 (RT.flat 0 T).length hat (by omega)
   exact ⟨by omega,by omega,by omega,zBH T,by rw [hfl] at hv ⊢; simpa using hv⟩
 ·intro h
  rcases rbeg_any ns ns.length (ns.length - 1) (by have:=h.n1; omega) (by have:=h.n1; omega) with e | ⟨t,o,e,hat,hsz⟩
  ·have:=h.bg
   rw [show ((ns.length : Int) - 1) = ((ns.length - 1 : Nat) : Int) by have:=h.n1; omega,e] at this
   cases this
  ·have hb0:=h.bg
   have h1:=h.n1
   rw [show ((ns.length : Int) - 1) = ((ns.length - 1 : Nat) : Int) by omega,e] at hb0
   have ho : o = 0:=by omega
   subst ho
   have hfl : ns = RT.flat 0 t:=by
    unfold AtT at hat
    rw [List.drop_zero,show t.size = ns.length from by omega,List.take_length] at hat
    exact hat
   have h2:=h.n4
   have hs:=zCi t (by omega)
   rw [← hfl,show ((t.size : Int) - 1) = root by rw [h.rt]; omega,hb] at hs
   exact Option.some.inj hs
theorem zCw (At : Option Addr) (ct : Nat) (ns : List S66) (root : Int) (hn : ns.length ≤ 4000) (hkl : ∀ x ∈ ns,x.f4.length ≤ 4000) (w : World) (hC : Kd.C k66 w At ns.length ns) (hct : ns.length ≤ ct) (b : Bool) (hb : b = true ↔ SndG ns root) :
  Calls Tryz.prog 79 #[.agg #[.slice At ns.length ct,.int .i64 root]] w fun e w' => e = .returned (.bool b) ∧ Below w.heap.size w w':=by
 obtain ⟨W0,hW0⟩ : ∃ W0,W0 = w.alloc (.cells #[.slice At ns.length ct,.int .i64 root] 24):=⟨_,rfl⟩
 have HB0:=Lib.hid (box_ref At ct ns root w W0 hW0).1
 have X0:=Lib.hid (box_ref At ct ns root w W0 hW0).2
 have HW0:=Lib.hid hW0
 have HC:=Lib.hid hC
 have HKL:=Lib.hid hkl
 have hw:=i64_id ((ns.length : Int) - 1) (by omega) (by omega)
 by_cases h1 : ns.length = 0
 ·have hng : ¬ SndG ns root:=fun h => by have:=h.n1; omega
  obtain rfl : b = false:=by
   cases b with
   | false => rfl
   | true => exact absurd (hb.1 rfl) hng
  clear hb
  have h1' : (ns.length : Int) < 1:=by omega
  clear hW0 hC hkl hng h1
  go_enter Tryz.func79,Tryz.ntmps79
  go_wp2_with fail
  go_ret
  exact ⟨rfl,by rw [← HW0.out]; exact HB0.out⟩
 have h1' : ¬ (ns.length : Int) < 1:=by omega
 have h2' : ¬ 4000 < (ns.length : Int):=by omega
 by_cases h3 : root = (ns.length : Int) - 1
 rotate_left
 ·have hng : ¬ SndG ns root:=fun h => h3 h.rt
  obtain rfl : b = false:=by
   cases b with
   | false => rfl
   | true => exact absurd (hb.1 rfl) hng
  clear hb
  have h3b : (root != (ns.length : Int) - 1) = true:=by simpa using h3
  clear hW0 hC hkl hng h1
  go_enter Tryz.func79,Tryz.ntmps79
  go_wp2_with fail
  go_ret
  exact ⟨rfl,by rw [← HW0.out]; exact HB0.out⟩
 have H1:=Lib.hid h1
 have HBB:=Lib.hid hb
 have HBG:=Lib.hid (fun (W : World) (hb : Below w.heap.size w W) => begins_is At ct ns hct hn hkl ns.length ((ns.length : Int) - 1) (by omega) (by omega) (by omega) W (Kd.C_below hC hb))
 obtain ⟨v,hv⟩ : ∃ v,v = begF ns ns.length ((ns.length : Int) - 1):=⟨_,rfl⟩
 rw [← hv] at HBG
 have HV:=Lib.hid hv
 subst h3
 clear hW0 hC hkl h1 hv hb
 go_enter Tryz.func79,Tryz.ntmps79
 go_wp2_with fail
 rw [← HW0.out]
 go_loopg [4] (ns.length + 1) (fun kq v4 W => ∃ i : Nat,v4 = .int .i64 i ∧ i ≤ ns.length ∧ Hid (i + kq = ns.length + 1) ∧ Hid (∀ i' (h : i' < ns.length),i' < i → ∀ k ∈ ns[i'].f4,0 ≤ k ∧ k < (i' : Int)) ∧ Hid (Below w.heap.size w W) ∧ Hid (W.heap[w.heap.size]? = some (.cells #[.slice At ns.length ct,.int .i64 ((ns.length : Int) - 1)] 24 (0,0))))
 case atStart => exact ⟨0,rfl,Nat.zero_le _,Lib.hid (by omega),Lib.hid (fun _ _ h => absurd h (Nat.not_lt_zero _)),HB0,X0⟩
 case round =>
  obtain ⟨i,rfl,hi,HN,HA,HB,X⟩:=hrel
  by_cases hlt : i < ns.length
  ·obtain ⟨ad,A4,c4,eA,z0,z1,z2,z3,z4,l4,g4⟩:=at_T66 (Kd.C_below HC.out HB.out) (i : Int) (by omega) (by omega)
   rw [rdT24 ns i hlt] at z4 l4 g4
   have hk4:=HKL.out ns[i] (List.getElem_mem hlt)
   have HST:=Lib.hid (fun (h : ∀ k ∈ ns[i].f4,0 ≤ k ∧ k < (i : Int)) => show ∀ i' (h : i' < ns.length),i' < i + 1 → ∀ k ∈ ns[i'].f4,0 ≤ k ∧ k < (i' : Int) from fun i' h' hi' => by
    rcases Nat.lt_or_ge i' i with h2 | h2
    ·exact HA.out i' h' h2
    ·have : i' = i:=by omega
     subst this; exact h)
   have HNO:=Lib.hid (fun (h : SndG ns ((ns.length : Int) - 1)) => h.rg i hlt)
   obtain ⟨kl,hkl⟩ : ∃ kl,kl = ns[i].f4:=⟨_,rfl⟩
   rw [← hkl] at z4 l4 g4 hk4 HST HNO
   have HG:=Lib.hid g4
   have HBX:=Lib.hid (Below.refl wr.heap.size wr)
   have HZ:=Lib.hid z4
   obtain ⟨go',hgo⟩ : ∃ g : Nat,g = gk:=⟨_,rfl⟩
   have HGO:=Lib.hid hgo
   rw [Int.toNat_natCast] at HZ
   cases eA
   clear hkl z0 z1 z2 z3 z4 g4 hgo
   go_wp2_with fail
   go_loopg [5] (kl.length + 1) (fun kq v5 W => ∃ j : Nat,v5 = .int .i64 j ∧ j ≤ kl.length ∧ Hid (j + kq = kl.length + 1) ∧ Hid (∀ j' (h : j' < kl.length),j' < j → 0 ≤ kl[j'] ∧ kl[j'] < (i : Int)) ∧ Hid (Below wr.heap.size wr W))
   case atStart => exact ⟨0,rfl,Nat.zero_le _,Lib.hid (by omega),Lib.hid (fun _ _ h => absurd h (Nat.not_lt_zero _)),HBX⟩
   case round =>
    obtain ⟨j,rfl,hj,HN2,HA2,HB2⟩:=hrel
    have c0:=bc_ (zAe X.out HB2.out) 0
    have zk:=zAb HB2.out HZ.out
    have i0 : ((i : Int) < (ns.length : Int)) = True:=eq_true (by omega)
    by_cases hlj : j < kl.length
    ·obtain ⟨adK,eK,y0⟩:=kid_at (Kd.C_below HG.out HB2.out) j hlj
     have HS2:=Lib.hid (fun (h : 0 ≤ kl[j] ∧ kl[j] < (i : Int)) => show ∀ j' (h : j' < kl.length),j' < j + 1 → 0 ≤ kl[j'] ∧ kl[j'] < (i : Int) from fun j' h' hj' => by
      rcases Nat.lt_or_ge j' j with h2 | h2
      ·exact HA2.out j' h' h2
      ·have : j' = j:=by omega
       subst this; exact h)
     have HN3:=Lib.hid (fun (h : SndG ns ((ns.length : Int) - 1)) => HNO.out h kl[j] (List.getElem_mem hlj))
     obtain ⟨c,hc⟩ : ∃ c,c = kl[j]:=⟨_,rfl⟩
     rw [← hc] at y0 HS2 HN3
     cases eK
     clear hc
     by_cases hc0 : c < 0
     ·obtain rfl : b = false:=by
       cases b with
       | false => rfl
       | true => have:=HN3.out (HBB.out.1 rfl); omega
      clear HBB
      go_wp2_with fail
      go_ret
      exact ⟨rfl,zAd HB.out HB2.out⟩
     ·by_cases hci : c < (i : Int)
      ·have hcb : ¬ (i : Int) ≤ c:=by omega
       have HS3:=Lib.hid (HS2.out ⟨by omega,hci⟩)
       clear HS2 HN3
       go_wp2_with fail
       go_roundg (gk - 1)
       case measure => have:=HN2.out; omega
       case rel => exact ⟨j + 1,by norm_cast,hlj,Lib.hid (by have:=HN2.out; omega),HS3,HB2⟩
      ·have hcb : (i : Int) ≤ c:=by omega
       obtain rfl : b = false:=by
        cases b with
        | false => rfl
        | true => have:=HN3.out (HBB.out.1 rfl); omega
       clear HBB
       go_wp2_with fail
       go_ret
       exact ⟨rfl,zAd HB.out HB2.out⟩
    ·obtain rfl : j = kl.length:=by omega
     have HA3:=Lib.hid (HST.out (fun k hk => by
      obtain ⟨j,hj,rfl⟩:=List.mem_iff_getElem.1 hk
      exact HA2.out j hj hj))
     have HB3:=Lib.hid (zAd HB.out HB2.out)
     have X3:=Lib.hid (zAe X.out HB2.out)
     go_wp2_with fail
     go_roundg (go' - 1)
     case measure => have:=HN.out; have:=HGO.out; omega
     case rel => exact ⟨i + 1,by norm_cast,hlt,Lib.hid (by have:=HN.out; have:=HGO.out; omega),HA3,HB3,X3⟩
  ·obtain rfl : i = ns.length:=by omega
   have c0:=bc_ X.out 0
   go_wp2_with fail
   refine (HBG.out wr HB.out).mono ?_
   rintro e_ W2 ⟨rfl,hb_⟩
   have HB2:=Lib.hid (zAd HB.out hb_)
   clear hb_ c0
   go_wp2_with fail
   go_ret
   have hbv : b = (v == 0):=by
    have h0 : b = true ↔ (v == 0) = true:=HBB.out.trans ⟨fun h => by have:=h.bg; rw [← HV.out] at this; simpa using this,fun h => ⟨by have:=H1.out; omega,hn,rfl,fun i h => HA.out i h h,by rw [← HV.out]; simpa using h⟩⟩
    cases b <;> cases h : v == 0 <;> simp_all
   exact ⟨by rw [hbv]; rfl,HB2.out⟩
theorem C_ints {w : World} {g : Nat} {l : List Int} (h : w.heap[g]? = some (.cells (intCells l) 3 (0,0))) (hl : l.length ≤ 4000) : Kd.C (Kd.int .i64) w (some ⟨g,0,none⟩) l.length l :=
 Kd.zBP (d:=0) ⟨rfl,by omega,fun _ => ⟨_,rfl,fun j hj => by
  have e : (⟨g,0,none⟩ : Addr).add j = ⟨g,j,none⟩:=by cases j <;> simp [Addr.add]
  rw [e,zAh h j]
  simp [intCells,hj]⟩⟩
theorem rparents_is (At : Option Addr) (ct : Nat) (ns : List S66) (root : Int) (hG : SndG ns root) (hkl : ∀ x ∈ ns,x.f4.length ≤ 4000) (w : World) (hC : Kd.C k66 w At ns.length ns) (hct : ns.length ≤ ct) :
  Calls Tryz.prog 119 #[.agg #[.slice At ns.length ct,.int .i64 root]] w fun e w' => ∃ (A : Option Addr) (c : Nat),e = .returned (.slice A (parsOf ns).length c) ∧ (parsOf ns).length ≤ c ∧ Kd.C (Kd.int .i64) w' A (parsOf ns).length (parsOf ns) ∧ Below w.heap.size w w':=by
 have hn:=hG.n4
 have hn1:=hG.n1
 obtain ⟨W0,hW0⟩ : ∃ W0,W0 = w.alloc (.cells #[.slice At ns.length ct,.int .i64 root] 24):=⟨_,rfl⟩
 have HB0:=Lib.hid (box_ref At ct ns root w W0 hW0).1
 have X0:=Lib.hid (box_ref At ct ns root w W0 hW0).2
 have HX:=Lib.hid (zCw At ct ns root hn hkl W0 (Kd.C_below hC HB0.out) hct true ⟨fun _ => hG,fun _ => rfl⟩)
 have HW0:=Lib.hid hW0
 have HC:=Lib.hid hC
 have HKL:=Lib.hid hkl
 have HRG:=Lib.hid hG.rg
 have hrt:=hG.rt
 have hr0 : (0 ≤ root) = True:=eq_true (by omega)
 have hr1 : (root < (ns.length : Int)) = True:=eq_true (by omega)
 have hmk:=zBY ns.length hn
 have HPL : Hid ((parsOf ns).length = ns.length):=Lib.hid (by
  unfold parsOf
  have h0:=(zCS ns ((List.replicate ns.length (0 : Int)).set (ns.length - 1) (-1)) (fun x hx k hk => by
   obtain ⟨i,hi,rfl⟩:=List.mem_iff_getElem.1 hx
   exact (hG.rg i hi k hk).1) ns.length 0 _ (by omega) rfl (fun j hj => .inr ⟨fun i' h => absurd h (Nat.not_lt_zero _),rfl⟩)).1
  rw [List.drop_zero] at h0
  rw [h0]; simp)
 have HP : Hid (parsOf ns = parF (ns.drop 0) 0 ((List.replicate ns.length (0 : Int)).set root.toNat (-1))):=Lib.hid (by rw [List.drop_zero,hrt,show ((ns.length : Int) - 1).toNat = ns.length - 1 by omega]; rfl)
 obtain ⟨P,hP⟩ : ∃ P,P = parsOf ns:=⟨_,rfl⟩
 rw [← hP] at HPL HP ⊢
 have HR:=Lib.hid hrt
 clear hW0 hC hkl hP hG hrt
 go_enter Tryz.func119,Tryz.ntmps119
 go_wp2_with fail
 rw [← HW0.out]
 refine HX.out.mono ?_
 rintro e_ W1 ⟨rfl,hb_⟩
 have HB1:=Lib.hid (zAd HB0.out hb_)
 have X1:=Lib.hid (zAe X0.out hb_)
 clear hb_
 have c0:=bc_ X1.out 0
 have a3:=blk_new W1 (.cells (intCells (List.replicate ns.length 0)) 3)
 have x3:=zAj X1.out (.cells (intCells (List.replicate ns.length 0)) 3)
 have c1:=bc_ x3 1
 have q1:=(zAh a3 root.toNat).trans (zAO (List.replicate ns.length 0) root (of_eq_true hr0) (by simpa using of_eq_true hr1))
 have f1:=zAc a3 root.toNat
 obtain ⟨W2,hW2⟩ : ∃ W2,W2 = W1.alloc (.cells ((intCells (List.replicate ns.length 0)).setIfInBounds root.toNat (.int .i64 (-1))) 3):=⟨_,rfl⟩
 have hgw : w.heap.size ≤ W1.heap.size:=HB1.out.size
 have O2 : Hid (W2.heap[W1.heap.size]? = some (.cells (intCells ((List.replicate ns.length (0 : Int)).set root.toNat (-1))) 3 (0,0))):=Lib.hid (by rw [hW2,zBv]; exact blk_new W1 _)
 have hlt:=blk_lt X1.out
 have X2 : Hid (W2.heap[w.heap.size]? = some (.cells #[.slice At ns.length ct,.int .i64 root] 24 (0,0))):=Lib.hid (by rw [hW2]; exact zAj X1.out _)
 have HB2 : Hid (Below w.heap.size w W2):=Lib.hid (by rw [hW2]; exact zAa HB1.out _)
 have HW2:=Lib.hid hW2
 obtain ⟨g,hg⟩ : ∃ g,g = W1.heap.size:=⟨_,rfl⟩
 have HGG:=Lib.hid hg
 rw [← hg] at hgw hlt O2
 have HL2 : Hid (((List.replicate ns.length (0 : Int)).set root.toNat (-1)).length = ns.length):=Lib.hid (by simp)
 have HGW:=Lib.hid hgw
 have HLT:=Lib.hid hlt
 clear hW2 x3 a3 hg hgw hlt
 go_wp2_with fail
 rw [← HW2.out,← HGG.out]
 clear c0 c1 q1 f1 hr0 hr1
 go_loopg [5] (ns.length + 1) (fun kq v5 W => ∃ (i : Nat) (l : List Int),v5 = .int .i64 i ∧ i ≤ ns.length ∧ Hid (i + kq = ns.length + 1) ∧ Hid (l.length = ns.length) ∧ Hid (P = parF (ns.drop i) i l) ∧ Hid (Below w.heap.size w W) ∧ Hid (W.heap[w.heap.size]? = some (.cells #[.slice At ns.length ct,.int .i64 root] 24 (0,0))) ∧ Hid (W.heap[g]? = some (.cells (intCells l) 3 (0,0))))
 case atStart => exact ⟨0,_,rfl,Nat.zero_le _,Lib.hid (by omega),HL2,HP,HB2,X2,O2⟩
 case round =>
  obtain ⟨i,l,rfl,hi,HN,HL,HQ,HB,X,O⟩:=hrel
  by_cases hlt : i < ns.length
  ·obtain ⟨ad,A4,c4,eA,z0,z1,z2,z3,z4,l4,g4⟩:=at_T66 (Kd.C_below HC.out HB.out) (i : Int) (by omega) (by omega)
   rw [rdT24 ns i hlt] at z4 l4 g4
   have hk4:=HKL.out ns[i] (List.getElem_mem hlt)
   have hrg:=HRG.out i hlt
   have hq : P = parF (ns.drop (i + 1)) (i + 1) (setK (i : Int) l ns[i].f4):=by rw [HQ.out,List.drop_eq_getElem_cons hlt,parF]
   obtain ⟨kl,hkl⟩ : ∃ kl,kl = ns[i].f4:=⟨_,rfl⟩
   rw [← hkl] at z4 l4 g4 hk4 hrg hq
   have HRG2:=Lib.hid hrg
   have HKE:=Lib.hid hkl
   have HQ2:=Lib.hid hq
   have HBX:=HB
   have i0 : ((i : Int) < (ns.length : Int)) = True:=eq_true (by omega)
   obtain ⟨go',hgo⟩ : ∃ g : Nat,g = gk:=⟨_,rfl⟩
   have HGO:=Lib.hid hgo
   rw [Int.toNat_natCast] at z4
   have c0:=bc_ X.out 0
   cases eA
   clear hkl z0 z1 z2 z3 g4 hgo hrg hq z4
   go_wp2_with fail
   clear c0
   go_loopg [6] (kl.length + 1) (fun kq v6 W => ∃ (j : Nat) (l : List Int),v6 = .int .i64 j ∧ j ≤ kl.length ∧ Hid (j + kq = kl.length + 1) ∧ Hid (l.length = ns.length) ∧ Hid (P = parF (ns.drop (i + 1)) (i + 1) (setK (i : Int) l (kl.drop j))) ∧ Hid (Below w.heap.size w W) ∧ Hid (W.heap[w.heap.size]? = some (.cells #[.slice (some ad) ns.length ct,.int .i64 root] 24 (0,0))) ∧ Hid (W.heap[g]? = some (.cells (intCells l) 3 (0,0))))
   case atStart => exact ⟨0,l,rfl,Nat.zero_le _,Lib.hid (by omega),HL,Lib.hid (by rw [List.drop_zero]; exact HQ2.out),HB,X,O⟩
   case round =>
    clear HB X O HL HQ
    obtain ⟨j,l,rfl,hj,HN2,HL,HQ,HB,X,O⟩:=hrel
    obtain ⟨ad2,A5,c5,eA2,z0,z1,z2,z3,zk,l5,g5⟩:=at_T66 (Kd.C_below HC.out HB.out) (i : Int) (by omega) (by omega)
    rw [rdT24 ns i hlt,← HKE.out] at zk l5 g5
    rw [Int.toNat_natCast] at zk
    cases eA2
    have c0:=bc_ X.out 0
    by_cases hlj : j < kl.length
    ·obtain ⟨adK,eK,y0⟩:=kid_at g5 j hlj
     have hin:=HRG2.out kl[j] (List.getElem_mem hlj)
     have hq : P = parF (ns.drop (i + 1)) (i + 1) (setK (i : Int) (l.set kl[j].toNat i) (kl.drop (j + 1))):=by rw [HQ.out,List.drop_eq_getElem_cons hlj,setK]
     obtain ⟨c,hc⟩ : ∃ c,c = kl[j]:=⟨_,rfl⟩
     rw [← hc] at y0 hin hq
     have HQ2:=Lib.hid hq
     have hl:=HL.out
     have e0 : (0 ≤ c) = True:=eq_true hin.1
     have e1 : (c < (ns.length : Int)) = True:=eq_true (by omega)
     have d0:=(zAh O.out c.toNat).trans (zAO l c hin.1 (by omega))
     have f0:=zAc O.out c.toNat
     have HL2 : Hid ((l.set c.toNat (i : Int)).length = ns.length):=Lib.hid (by rw [List.length_set]; exact hl)
     obtain ⟨W3,hW3⟩ : ∃ W3,W3 = wr.setCell ⟨g,c.toNat,none⟩ (.int .i64 i):=⟨_,rfl⟩
     have O3 : Hid (W3.heap[g]? = some (.cells (intCells (l.set c.toNat (i : Int))) 3 (0,0))):=Lib.hid (by rw [hW3]; exact blk_put O.out _ _ (zBv _ _ _))
     have X3 : Hid (W3.heap[w.heap.size]? = some (.cells #[.slice (some ad) ns.length ct,.int .i64 root] 24 (0,0))):=Lib.hid (by rw [hW3]; exact blk_far X.out (by have:=HLT.out; show w.heap.size ≠ g; omega) _)
     have HB3 : Hid (Below w.heap.size w W3):=Lib.hid (by rw [hW3]; exact HB.out.setCell HGW.out _)
     have HW3:=Lib.hid hW3
     cases eK
     clear hc hq hl hin hW3 z0 z1 z2 z3 g5 HQ
     go_wp2_with fail
     rw [← HW3.out]
     go_roundg (gk - 1)
     case measure => have:=HN2.out; omega
     case rel => exact ⟨j + 1,_,by norm_cast,hlj,Lib.hid (by have:=HN2.out; omega),HL2,HQ2,HB3,X3,O3⟩
    ·obtain rfl : j = kl.length:=by omega
     have hq:=HQ.out
     rw [List.drop_length,setK] at hq
     have HQ2:=Lib.hid hq
     clear hq HQ z0 z1 z2 z3 g5
     go_wp2_with fail
     go_roundg (go' - 1)
     case measure => have:=HN.out; have:=HGO.out; omega
     case rel => exact ⟨i + 1,l,by norm_cast,hlt,Lib.hid (by have:=HN.out; have:=HGO.out; omega),HL,HQ2,HB,X,O⟩
  ·obtain rfl : i = ns.length:=by omega
   have hq:=HQ.out
   rw [List.drop_length,parF] at hq
   have c0:=bc_ X.out 0
   have HV:=Lib.hid hq
   clear hq
   go_wp2_with fail
   go_ret
   have hl:=HL.out
   rw [HV.out]
   exact ⟨_,_,by rw [hl]; rfl,by omega,C_ints O.out (by omega),HB.out⟩
end Go.Proofs.YtkhlfdcjgooogaaGreat.P
