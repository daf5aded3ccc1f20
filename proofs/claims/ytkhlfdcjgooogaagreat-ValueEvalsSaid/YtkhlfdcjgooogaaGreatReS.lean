import Derived.Test.YtkhlfdcjgooogaaGreatWMore
import Derived.Test.YtkhlfdcjgooogaaGreatPf29
import Derived.Test.YtkhlfdcjgooogaaGreatVaB
import Derived.Test.YtkhlfdcjgooogaaGreatHeapI
set_option maxRecDepth 100000
set_option maxHeartbeats 16000000
set_option linter.unusedVariables false
set_option linter.unusedSimpArgs false
set_option linter.unusedSectionVars false
namespace Go.Proofs.YtkhlfdcjgooogaaGreat.P
open Go.RowKit Go.Proofs.YtkhlfdcjgooogaaGreatW.PrintWords Go.Proofs.YtkhlfdcjgooogaaGreatW.PrintLast Go.Proofs.YtkhlfdcjgooogaaGreatW.PrintMore
structure RvS (w0 : World) (tr nd : Array Value) (W : World) : Prop where
 x0 : W.heap[w0.heap.size]? = some (.cells tr 24 (0,0))
 x1 : W.heap[w0.heap.size + 1]? = some (.cells #[.int .i64 0,.int .i64 0] 49 (0,0))
 x2 : W.heap[w0.heap.size + 1 + 1]? = some (.cells nd 66 (0,0))
 hB : Below w0.heap.size w0 W
 sz : w0.heap.size + 3 ≤ W.heap.size
theorem RvS.below {w0 W W' : World} {tr nd : Array Value} (h : RvS w0 tr nd W) (hb : Below W.heap.size W W') : RvS w0 tr nd W' :=
 ⟨zAe h.x0 hb,zAe h.x1 hb,zAe h.x2 hb,zAd h.hB hb,Nat.le_trans h.sz hb.size⟩
theorem RvS.low {w0 W W' : World} {tr nd : Array Value} (h : RvS w0 tr nd W) (hb : Below (w0.heap.size + 3) W W') : RvS w0 tr nd W' :=
 ⟨(hb.block _ (by omega)).trans h.x0,(hb.block _ (by omega)).trans h.x1,(hb.block _ (by omega)).trans h.x2,h.hB.trans (hb.mono (by omega)),Nat.le_trans h.sz hb.size⟩
theorem RvS.start (w : World) (tr nd : Array Value) : RvS w tr nd (((w.alloc (.cells tr 24)).alloc (.cells #[.int .i64 0,.int .i64 0] 49)).alloc (.cells nd 66)) :=
 ⟨zAj (zAj (blk_new w _) _) _,zAj (nb1 w _ _) _,nb2 w _ _ _,zAa (zAa (zAa (Below.refl _ _) _) _) _,by simp⟩
def kVV : Kd (Int × Int):=Kd.pair (Kd.int .i64) (Kd.int .i64)
theorem infoV : (Tryz.prog.info? 49).map (fun i => (i.zero,i.size,i.bytes)) = some (some (.agg #[.int .i64 0,.int .i64 0]),2,16):=by kernel_rfl
theorem kVV_mk (w : World) (base : Nat) (ok : Nat → Prop) (x : Int × Int) : kVV.M w base ok x [.int .i64 x.1,.int .i64 x.2]:=⟨[.int .i64 x.1],[.int .i64 x.2],rfl,rfl,rfl⟩
theorem vv_at {w : World} {A : Option Addr} {l : List (Int × Int)} (h : Kd.C kVV w A l.length l) (i : Nat) (hi : i < l.length) :
  ∃ ad,A = some ad ∧ w.cell? (ad.add (i * 2)) = some (.int .i64 (l.getD i (0,0)).1) ∧ w.cell? ⟨(ad.add (i * 2)).block,(ad.add (i * 2)).off + 1,none⟩ = some (.int .i64 (l.getD i (0,0)).2):=by
 obtain ⟨ad,c,e,_,hK,hc0⟩:=Kd.C_get h ((0,0) : Int × Int) (i : Int) (by omega) (by omega)
 have hc : ∀ j u,c[j]? = some u → w.cell? (ad.add (i * 2 + j)) = some u:=fun j u hj => by have:=hc0 j u hj; rwa [Int.toNat_natCast] at this
 obtain ⟨c0,c1,rfl,h0,h1⟩:=hK
 have e0 : c0 = [.int .i64 (l.getD (i : Int).toNat (0,0)).1]:=h0
 have e1 : c1 = [.int .i64 (l.getD (i : Int).toNat (0,0)).2]:=h1
 rw [Int.toNat_natCast] at e0 e1
 subst e0 e1
 exact ⟨ad,e,hc 0 _ rfl,by rw [← zBE _ _ 1 (by omega)]; exact hc 1 _ rfl⟩
structure RwE (At : Option Addr) (ct : Nat) (ns : List S66) (root : Int) (ol ps : List Int) (An : Option Addr) (cn : Nat) (nl : List NV) (Bm : Nat) (ok : Nat → Prop) (L : List (List Int)) (w : World) : Prop where
 hW : RW At ct ns root ol ps w
 hT : RightC At ct ns root true w
 hN : Kd.C kNV w An nl.length nl
 hcn : nl.length ≤ cn
 hnl : nl.length ≤ 1000000
 hH : HR w Bm ok L
 hL : cellsOf L ≤ 262144
theorem RwE.below {At : Option Addr} {ct : Nat} {ns : List S66} {root : Int} {ol ps : List Int} {An : Option Addr} {cn : Nat} {nl : List NV} {Bm : Nat} {ok : Nat → Prop} {L : List (List Int)} {w w' : World} (h : RwE At ct ns root ol ps An cn nl Bm ok L w) (hb : Below w.heap.size w w') : RwE At ct ns root ol ps An cn nl Bm ok L w' :=
 ⟨h.hW.below hb,h.hT.below hb,Kd.C_below h.hN hb,h.hcn,h.hnl,h.hH.below hb,h.hL⟩
theorem reval_step (At : Option Addr) (ct : Nat) (ns : List S66) (root : Int) (ol ps : List Int) (An : Option Addr) (cn : Nat) (nl : List NV) (Bm : Nat) (ok : Nat → Prop) (L : List (List Int)) (g : Int → Int × Int × Int)
  (q : Int) (h0 : 0 ≤ q) (h1 : q < ns.length) (hk1 : 20 ≤ kdOf ns q) (hk2 : kdOf ns q ≤ 27) (hkn : (rd_T66 ns q).f4.length ≤ 2) (hke : (kdOf ns q = 23 ∨ kdOf ns q = 26 → (rd_T66 ns q).f4.length = 1) ∧ (kdOf ns q = 27 → (rd_T66 ns q).f4.length = 2))
  (IH : ∀ kid ∈ (rd_T66 ns q).f4,∀ w,RwE At ct ns root ol ps An cn nl Bm ok L w → Calls Tryz.prog 23 #[.agg #[.slice At ns.length ct,.int .i64 root],.int .i64 kid,.slice An nl.length cn,.pointer (some ⟨Bm,0,none⟩)] w fun e w' => e = .returned (.tuple #[.agg #[.int .i64 (g kid).1,.int .i64 (g kid).2.1],.int .i64 (g kid).2.2]) ∧ Below w.heap.size w w')
  (w : World) (hW : RwE At ct ns root ol ps An cn nl Bm ok L w) (r : Int × Int × Int) (hr : r = if (kidsF g (rd_T66 ns q).f4 []).2 = 0 then opF ns ol nl L q (kidsF g (rd_T66 ns q).f4 []).1 else (0,0,(kidsF g (rd_T66 ns q).f4 []).2)) :
  Calls Tryz.prog 23 #[.agg #[.slice At ns.length ct,.int .i64 root],.int .i64 q,.slice An nl.length cn,.pointer (some ⟨Bm,0,none⟩)] w fun e w' => e = .returned (.tuple #[.agg #[.int .i64 r.1,.int .i64 r.2.1],.int .i64 r.2.2]) ∧ Below w.heap.size w w':=by
 have hmemq:=zAA ns q h0 h1
 have hsz:=hW.hW.hR.sz _ hmemq
 have hkin:=(hW.hW.hR.fit.2 _ hmemq).1
 obtain ⟨x,hx⟩ : ∃ x,x = rd_T66 ns q:=⟨_,rfl⟩
 have hk0 : kdOf ns q = (rd_T66 ns q).f0:=rfl
 have ht0 : nmOf ns q = (rd_T66 ns q).f3.data.toList:=rfl
 have hn0 : nOf ns q = (rd_T66 ns q).f1:=rfl
 have hf0 : (rd_T66 ns q).f3 = x.f3:=by rw [hx]
 obtain ⟨ad,A4,c4,eA,z0,z1,z2,z3,z4,l4,g4⟩:=at_T66 hW.hW.hC q h0 h1
 cases eA
 have B2 : Below w.heap.size w ((w.alloc (.cells #[.slice (some ad) ns.length ct,.int .i64 root] 24)).alloc (.cells #[.int .i64 0,.int .i64 0] 49)):=zAa (zAa (Below.refl _ _) _) _
 replace z0:=zAb B2 z0
 replace z1:=zAb B2 z1
 replace z2:=zAb B2 z2
 replace z3:=zAb B2 z3
 replace z4:=zAb B2 z4
 have cb : ((w.alloc (.cells #[.slice (some ad) ns.length ct,.int .i64 root] 24)).alloc (.cells #[.int .i64 0,.int .i64 0] 49)).cell? ⟨w.heap.size,0,none⟩ = some (.slice (some ad) ns.length ct):=(zAh (zAj (blk_new w _) _) 0).trans rfl
 have e0:=eq_true h0
 have e1:=eq_true h1
 rw [← hx] at z0 z1 z2 z3 z4 l4 g4 hk0 ht0 hn0 hkn hke IH hr hsz hkin
 obtain ⟨k,n,at_,tx,kl⟩:=x
 dsimp only at z0 z1 z2 z3 z4 l4 g4 hk0 ht0 hn0 hkn hke IH hr hsz hkin hf0
 have S0:=RvS.start w #[.slice (some ad) ns.length ct,.int .i64 root] #[.int .i64 k,.int .i64 n,.int .i64 at_,.string tx,.slice A4 kl.length c4]
 obtain ⟨W0,hW0⟩ : ∃ W_,W_ = ((w.alloc (.cells #[.slice (some ad) ns.length ct,.int .i64 root] 24)).alloc (.cells #[.int .i64 0,.int .i64 0] 49)).alloc (.cells #[.int .i64 k,.int .i64 n,.int .i64 at_,.string tx,.slice A4 kl.length c4] 66):=⟨_,rfl⟩
 rw [← hW0] at S0
 have HS0:=Lib.hid S0
 have HCK:=Lib.hid (fun (W : World) (hb : Below w.heap.size w W) => Kd.C_below g4 hb)
 have HW:=Lib.hid (fun (W : World) (hb : Below w.heap.size w W) => hW.below hb)
 have HIH:=Lib.hid IH
 have HRR:=Lib.hid hr
 have HK0:=Lib.hid hk0
 have HT0:=Lib.hid ht0
 have HN0:=Lib.hid hn0
 have HSZ:=Lib.hid hsz
 have HK1:=Lib.hid hk1
 have HK2:=Lib.hid hk2
 have HF0:=Lib.hid hf0
 have HKN:=Lib.hid hkin
 have HKE:=Lib.hid hke
 have HW0:=Lib.hid hW0
 have HR:=Lib.hid hW.hW.hR
 clear B2 S0 hW0 IH hr hk0 ht0 hn0 hsz hk1 hk2 hf0 hkin hx hmemq hW g4 hke
 go_enter Tryz.func23,Tryz.ntmps23
 go_wp2_with fail
 rw [← HW0.out]
 clear z0 z1 z2 z3 z4 cb e0 e1
 go_loopg [11,12] (kl.length + 1) (fun kq v11 v12 W => ∃ (j : Nat) (acc : List (Int × Int)),v12 = .int .i64 j ∧ j ≤ kl.length ∧ Hid (j + kq = kl.length + 1) ∧ Hid (acc.length = j) ∧ Hid (kidsF g kl [] = kidsF g (kl.drop j) acc) ∧ Hid (Kd.R kVV 49 W (w.heap.size + 3) (fun _ => True) v11 acc) ∧ Hid (RvS w #[.slice (some ad) ns.length ct,.int .i64 root] #[.int .i64 k,.int .i64 n,.int .i64 at_,.string tx,.slice A4 kl.length c4] W))
 case atStart => exact ⟨0,[],rfl,Nat.zero_le _,Lib.hid (by omega),Lib.hid rfl,Lib.hid (by rw [List.drop_zero]),Lib.hid (Kd.R_nil _ _ _ _ _),HS0⟩
 case round =>
  obtain ⟨j,acc,rfl,hj,HN,HL,HF,HA,HS⟩:=hrel
  by_cases hlt : j < kl.length
  ·obtain ⟨adK,eK,y0⟩:=kid_at (HCK.out wr HS.out.hB) j hlt
   have hst : kidsF g kl [] = if (g kl[j]).2.2 = 0 then kidsF g (kl.drop (j + 1)) (acc ++ [((g kl[j]).1,(g kl[j]).2.1)]) else ([],(g kl[j]).2.2):=by rw [HF.out,List.drop_eq_getElem_cons hlt,kidsF]
   have hih:=fun (W : World) (hb : Below wr.heap.size wr W) => HIH.out kl[j] (List.getElem_mem hlt) W (HW.out W (zAd HS.out.hB hb))
   obtain ⟨kv,hkv⟩ : ∃ kv,kv = kl[j]:=⟨_,rfl⟩
   rw [← hkv] at y0 hst hih
   obtain ⟨ra,hra⟩ : ∃ ra,ra = (g kv).1:=⟨_,rfl⟩
   obtain ⟨rb,hrb⟩ : ∃ rb,rb = (g kv).2.1:=⟨_,rfl⟩
   obtain ⟨rc,hrc⟩ : ∃ rc,rc = (g kv).2.2:=⟨_,rfl⟩
   rw [← hra,← hrb,← hrc] at hst hih
   have HST:=Lib.hid hst
   have HX:=Lib.hid hih
   have c0:=bc_ HS.out.x0 0
   have c1:=bc_ HS.out.x0 1
   have cl:=bc_ HS.out.x2 4
   cases eK
   clear hkv hst hih hra hrb hrc
   go_wp2_with fail
   refine start_ (n:=15) (S:=fun w' => w'.cell? ⟨w.heap.size,0,none⟩ = some (.slice (some ad) ns.length ct) ∧ w'.cell? ⟨w.heap.size,1,none⟩ = some (.int .i64 root) ∧ w'.cell? ⟨w.heap.size + 1 + 1,4,none⟩ = some (.slice (some adK) kl.length c4) ∧ w'.cell? (adK.add j) = some (.int .i64 kv)) (ds:=[13]) #[false,false,false,false,false,false,false,false,false,false,false,false,false,false,false] (by kernel_rfl) rfl rfl ⟨zAg c0,zAg c1,zAg cl,zAg y0⟩ (fun hHeld => ?_)
   refine pu_ 1 34 ?_
   refine pu_ 3 36 ?_
   refine pu_ 6 39 ?_
   refine pu_ 7 40 ?_
   refine ta_ 0 33 hHeld ?_
   refine ta_ 2 35 hHeld ?_
   refine pu_ 4 37 ?_
   refine ta_ 5 38 hHeld ?_
   refine join_ (σ:=Nat) 2 #[true,true,true,true,true,true,true,true,true,true,true,true,true,false,false] (fun s => [(41,.tuple #[.agg #[.int .i64 ra,.int .i64 rb],.int .i64 rc]),(32,.tuple #[.agg #[.int .i64 ra,.int .i64 rb],.int .i64 rc]),(42,.agg #[.int .i64 ra,.int .i64 rb]),(43,.int .i64 rc),(13,.pointer (some ⟨s,0,none⟩))]) (fun s w' => Below wr.heap.size wr w' ∧ w'.heap[s]? = some (.cells #[.int .i64 0,.int .i64 0] 49 (0,0)) ∧ wr.heap.size ≤ s) ?_ ?_
   rotate_left
   ·intro hCont
    refine two_ (i:=8) (j:=12) (Ni:=some 41) (Nj:=some 13) #[true,true,true,true,true,true,true,true,true,false,false,false,false,false,false] #[true,true,true,true,true,true,true,true,false,false,false,false,true,false,false] rfl rfl rfl rfl (by kernel_rfl) (by decide) (by decide) (fun K hK => ?_) (fun K hK => ?_)
    ·skip
     refine gs_ Tryz.func23 #[.agg #[.slice (some ad) ns.length ct,.int .i64 root],.int .i64 kv,.slice An nl.length cn,.pointer (some ⟨Bm,0,none⟩)] ?_
     with_reducible refine (HX.out _ (zAk (Below.refl wr.heap.size wr))).mono ?_
     rintro e_ wC ⟨rfl,hb_⟩
     refine ⟨_,rfl,?_⟩
     have BC_:=Lib.hid (zAd (zAk (Below.refl wr.heap.size wr)) hb_)
     clear hb_
     refine hK.out _ _ ⟨zAb BC_.out c0,zAb BC_.out c1,zAb BC_.out cl,zAb BC_.out y0⟩ (fun hHeld => ?_)
     clear hK K
     refine no_ ?_
     refine pu_ 9 32 ?_
     refine pu_ 10 42 ?_
     refine pu_ 11 43 ?_
     refine on_ 12 (some 13) (fun K hK => ?_)
     refine value_ (w1:=?_) (v:=?_) (by rfl) rfl ?_ ?_
     rotate_left 2
     ·go_simp
      constructor
      ·rfl
      ·rfl
     have BCA:=Lib.hid (zAa BC_.out (.cells #[.int .i64 0,.int .i64 0] 49))
     have NCA : Hid ((wC.alloc (.cells #[.int .i64 0,.int .i64 0] 49)).heap[wC.heap.size]? = some (.cells #[.int .i64 0,.int .i64 0] 49 (0,0))):=Lib.hid (heap_alloc_new wC _)
     refine hK.out _ _ ⟨zAb BCA.out c0,zAb BCA.out c1,zAb BCA.out cl,zAb BCA.out y0⟩ (fun hHeld => ?_)
     clear hK K
     refine no_ ?_
     exact norm_ (by simp only [putAll,Act.put,List.setIfInBounds_toArray,List.set_cons_zero,List.set_cons_succ]) (hCont wC.heap.size _ ⟨BCA.out,NCA.out,BC_.out.size⟩)
    ·skip
     refine value_ (w1:=?_) (v:=?_) (by rfl) rfl ?_ ?_
     rotate_left 2
     ·go_simp
      constructor
      ·rfl
      ·rfl
     have BA_ : Hid (Below wr.heap.size wr ((wr.alloc (.cells #[.int .i64 0,.int .i64 0] 49)).drew)):=Lib.hid (zAk (zAa (Below.refl _ _) _))
     have NA_ : Hid (((wr.alloc (.cells #[.int .i64 0,.int .i64 0] 49)).drew).heap[wr.heap.size]? = some (.cells #[.int .i64 0,.int .i64 0] 49 (0,0))):=Lib.hid (zAl (heap_alloc_new wr _))
     refine hK.out _ _ ⟨zAb BA_.out c0,zAb BA_.out c1,zAb BA_.out cl,zAb BA_.out y0⟩ (fun hHeld => ?_)
     clear hK K
     refine no_ ?_
     refine on_ 8 (some 41) (fun K hK => ?_)
     refine gs_ Tryz.func23 #[.agg #[.slice (some ad) ns.length ct,.int .i64 root],.int .i64 kv,.slice An nl.length cn,.pointer (some ⟨Bm,0,none⟩)] ?_
     with_reducible refine (HX.out _ BA_.out).mono ?_
     rintro e_ wA ⟨rfl,hb_⟩
     refine ⟨_,rfl,?_⟩
     have BAC:=Lib.hid (zAd BA_.out hb_)
     have NAC:=Lib.hid (zAe NA_.out hb_)
     clear hb_
     refine hK.out _ _ ⟨zAb BAC.out c0,zAb BAC.out c1,zAb BAC.out cl,zAb BAC.out y0⟩ (fun hHeld => ?_)
     clear hK K
     refine no_ ?_
     refine pu_ 9 32 ?_
     refine pu_ 10 42 ?_
     refine pu_ 11 43 ?_
     exact norm_ (by simp only [putAll,Act.put,List.setIfInBounds_toArray,List.set_cons_zero,List.set_cons_succ]) (hCont wr.heap.size _ ⟨BAC.out,NAC.out,Nat.le_refl _⟩)
   rintro sp wF ⟨hF1,hF2,hF3⟩
   have hHeld:=True.intro
   refine norm_ (a':=?_) ?_ ?_
   rotate_left
   ·simp only [putAll,Act.put,List.setIfInBounds_toArray,List.set_cons_zero,List.set_cons_succ]
    rfl
   refine last_ (i:=13) (N:=none) #[true,true,true,true,true,true,true,true,true,true,true,true,true,true,false] rfl rfl (by kernel_rfl) (by decide) (fun K hK => ?_)
   have cv0:=(zAh hF2 0).trans rfl
   have cv1:=(zAh hF2 1).trans rfl
   have fv0:=zAc hF2 0
   have fv1:=zAc hF2 1
   refine skip_ (w1:=?_) (by rfl) rfl ?_ ?_
   rotate_left
   ·go_simp
    rfl
   refine hK.out _ _ ?_
   clear hK K
   refine pu_ 14 14 ?_
   refine done_ (by kernel_rfl) ?_
   obtain ⟨W2,hw_⟩ : ∃ W2,W2 = (wF.setCell ⟨sp,0,none⟩ (.int .i64 ra)).setCell ⟨sp,1,none⟩ (.int .i64 rb):=⟨_,rfl⟩
   rw [← hw_]
   have hb_ : Below wr.heap.size wr W2:=by rw [hw_]; exact Below.setCell (p:=⟨sp,_,none⟩) (Below.setCell (p:=⟨sp,_,none⟩) hF1 hF3 _) hF3 _
   have nv:=Lib.hid (show W2.heap[sp]? = some (.cells #[.int .i64 ra,.int .i64 rb] 49 (0,0)) by rw [hw_]; exact blk_put (blk_put hF2 0 _ rfl) 1 _ rfl)
   have HS2:=Lib.hid (HS.out.below hb_)
   have HB2:=Lib.hid hb_
   have HSP:=Lib.hid hF3
   have HA2:=Lib.hid (Kd.R_below HA.out hb_)
   clear hF1 hF2 hF3 hw_ hb_ hHeld c0 c1 cl y0
   by_cases hrc : rc = 0
   ·have hst:=HST.out
    rw [if_pos hrc] at hst
    have HST2:=Lib.hid hst
    subst hrc
    clear hst HST
    have hl:=HL.out
    have HLA : Hid (acc.length ≤ 2):=Lib.hid (by omega)
    have HL2 : Hid ((acc ++ [(ra,rb)]).length = j + 1):=Lib.hid (by rw [List.length_append,hl]; rfl)
    clear hl
    have v0:=bc_ nv.out 0
    have v1:=bc_ nv.out 1
    go_wp2_with (((with_reducible refine gate_builtin (b:=.append) (xs:=#[.tmp 48,.tmp 50]) rfl ?_); at_builtin; refine Stq.out ?_))
    unfold Stq
    refine Kd.R_append kVV (w0:=W2) (w.heap.size + 3) rfl (.tmp 48) (.tmp 50) 102 49 (.agg #[.int .i64 0,.int .i64 0]) 16 rfl Tryz.underlying102 infoV rfl (by decide) (by omega) u11 acc ((ra,rb) : Int × Int) [.int .i64 ra,.int .i64 rb] (fun _ => True) (fun _ => False) rfl rfl (kVV_mk _ _ _ (ra,rb)) (fun _ hk => hk.elim) (fun _ _ => trivial) HA2.out (Below.refl _ _) HS2.out.sz (by have:=HLA.out; omega) ?_
    intro v9 w9 ho_ hb_ hg_ hat_
    have HA9:=Lib.hid ho_
    have HS9:=Lib.hid (HS2.out.low hb_)
    clear ho_ hb_ hg_ hat_ v0 v1
    go_wp2_with fail
    go_roundg (gk - 1)
    case measure => have:=HN.out; omega
    case rel => exact ⟨j + 1,_,by norm_cast,hlt,Lib.hid (by have:=HN.out; omega),HL2,HST2,HA9,HS9⟩
   ·have hst:=HST.out
    rw [if_neg hrc] at hst
    have hrr:=HRR.out
    rw [hst] at hrr
    dsimp only at hrr
    rw [if_neg hrc] at hrr
    subst hrr
    clear hst HST HRR
    have d0:=bc_ HS2.out.x1 0
    have d1:=bc_ HS2.out.x1 1
    have f0:=zAc HS2.out.x1 0
    have f1:=zAc HS2.out.x1 1
    go_wp2_with fail
    refine bodyPost_ret (zAq rfl _ _ (w.heap.size + 1) 49 #[.int .i64 (0),.int .i64 (0)] (0,0) _ rfl (blk_put (blk_put HS2.out.x1 0 _ rfl) 1 _ rfl) Tryz.underlying49 rfl (by kernel_rfl)) rfl ?_
    exact ⟨rfl,(HS2.out.hB.setCell (by show w.heap.size ≤ w.heap.size + 1; omega) _).setCell (by show w.heap.size ≤ w.heap.size + 1; omega) _⟩
  ·obtain rfl : j = kl.length:=by omega
   have hff:=HF.out
   rw [List.drop_length,kidsF] at hff
   have hrr:=HRR.out
   rw [hff] at hrr
   dsimp only at hrr
   rw [if_pos rfl] at hrr
   clear hff HRR HF HIH
   have hop:=hrr
   unfold opF at hop
   rw [HK0.out,HN0.out,HT0.out,HF0.out] at hop
   have hk8 : k = 20 ∨ k = 21 ∨ k = 22 ∨ k = 23 ∨ k = 24 ∨ k = 25 ∨ k = 26 ∨ k = 27:=by have a:=HK1.out; have b:=HK2.out; have c:=HK0.out; omega
   obtain ⟨Av,cv,hu11,hle_,hCv_⟩:=Kd.R_reads HA.out
   have HCV:=Lib.hid hCv_
   have HEW:=Lib.hid (HW.out wr HS.out.hB)
   have hlv:=HL.out
   subst hu11
   clear hrr HN hj HA hle_ hCv_
   rcases hk8 with rfl | rfl | rfl | rfl | rfl | rfl | rfl | rfl
   ·rw [if_pos rfl] at hop
    subst hop
    clear hlv
    have cl:=bc_ HS.out.x2 4
    have ck:=bc_ HS.out.x2 0
    have cn:=bc_ HS.out.x2 1
    have d0:=bc_ HS.out.x1 0
    have d1:=bc_ HS.out.x1 1
    have f0:=zAc HS.out.x1 0
    have f1:=zAc HS.out.x1 1
    go_wp2_with fail
    refine bodyPost_ret (zAq rfl _ _ (w.heap.size + 1) 49 #[.int .i64 (1),.int .i64 (n)] (0,0) _ rfl (blk_put (blk_put HS.out.x1 0 _ rfl) 1 _ rfl) Tryz.underlying49 rfl (by kernel_rfl)) rfl ?_
    exact ⟨rfl,(HS.out.hB.setCell (by show w.heap.size ≤ w.heap.size + 1; omega) _).setCell (by show w.heap.size ≤ w.heap.size + 1; omega) _⟩
   ·rw [if_neg (by decide),if_pos rfl] at hop
    subst hop
    clear hlv
    have cl:=bc_ HS.out.x2 4
    have ck:=bc_ HS.out.x2 0
    have cn:=bc_ HS.out.x2 1
    have d0:=bc_ HS.out.x1 0
    have d1:=bc_ HS.out.x1 1
    have f0:=zAc HS.out.x1 0
    have f1:=zAc HS.out.x1 1
    go_wp2_with fail
    refine bodyPost_ret (zAq rfl _ _ (w.heap.size + 1) 49 #[.int .i64 (2),.int .i64 (n)] (0,0) _ rfl (blk_put (blk_put HS.out.x1 0 _ rfl) 1 _ rfl) Tryz.underlying49 rfl (by kernel_rfl)) rfl ?_
    exact ⟨rfl,(HS.out.hB.setCell (by show w.heap.size ≤ w.heap.size + 1; omega) _).setCell (by show w.heap.size ≤ w.heap.size + 1; omega) _⟩
   ·rw [if_neg (by decide),if_neg (by decide),if_pos rfl] at hop
    obtain ⟨nv,hnv⟩ : ∃ nv,nv = nameF nl tx.data.toList:=⟨_,rfl⟩
    have HX:=Lib.hid (fun (W : World) (hb : Below wr.heap.size wr W) => zDp An cn nl HEW.out.hnl HEW.out.hcn tx W (Kd.C_below HEW.out.hN hb))
    rw [← hnv] at hop HX
    clear hnv
    subst hop
    clear hlv
    have cl:=bc_ HS.out.x2 4
    have ck:=bc_ HS.out.x2 0
    have cct:=bc_ HS.out.x2 3
    go_wp2_with fail
    refine (HX.out wr (Below.refl _ _)).mono ?_
    rintro e_ W2 ⟨rfl,hb_⟩
    have HS2:=Lib.hid (HS.out.below hb_)
    clear hb_ ck cct
    have d0:=bc_ HS2.out.x1 0
    have d1:=bc_ HS2.out.x1 1
    have f0:=zAc HS2.out.x1 0
    have f1:=zAc HS2.out.x1 1
    go_wp2_with fail
    refine bodyPost_ret (zAq rfl _ _ (w.heap.size + 1) 49 #[.int .i64 (nv.1),.int .i64 (nv.2)] (0,0) _ rfl (blk_put (blk_put HS2.out.x1 0 _ rfl) 1 _ rfl) Tryz.underlying49 rfl (by kernel_rfl)) rfl ?_
    exact ⟨rfl,(HS2.out.hB.setCell (by show w.heap.size ≤ w.heap.size + 1; omega) _).setCell (by show w.heap.size ≤ w.heap.size + 1; omega) _⟩
   ·rw [if_neg (by decide),if_neg (by decide),if_neg (by decide),if_pos rfl] at hop
    have hl1:=HKE.out.1 (.inl (HK0.out))
    have hal : acc.length = 1:=by omega
    obtain ⟨nv,hnv⟩ : ∃ nv,nv = nameF nl tx.data.toList:=⟨_,rfl⟩
    have HX:=Lib.hid (fun (W : World) (hb : Below wr.heap.size wr W) => zDp An cn nl HEW.out.hnl HEW.out.hcn tx W (Kd.C_below HEW.out.hN hb))
    rw [← hnv] at hop HX
    clear hnv
    obtain ⟨v0,hv0⟩ : ∃ v0,v0 = (acc.getD 0 (0,0)).1:=⟨_,rfl⟩
    obtain ⟨v1,hv1⟩ : ∃ v1,v1 = (acc.getD 0 (0,0)).2:=⟨_,rfl⟩
    rw [← hv0,← hv1] at hop
    obtain ⟨adV,eV,y0,y1⟩:=vv_at HCV.out 0 (by omega)
    rw [← hv0,Nat.zero_mul,rz] at y0
    rw [← hv1,Nat.zero_mul,rz] at y1
    have HG:=Lib.hid (fun (W : World) (hb : Below wr.heap.size wr W) => mget nv.1 nv.2 v0 v1 (HEW.out.below hb).hH HEW.out.hL)
    obtain ⟨g0,hg0⟩ : ∃ g0,g0 = getK L nv.1 nv.2 v0 v1:=⟨_,rfl⟩
    obtain ⟨g1,hg1⟩ : ∃ g1,g1 = getN L nv.1 nv.2 v0 v1:=⟨_,rfl⟩
    obtain ⟨g2,hg2⟩ : ∃ g2,g2 = wrongF L nv.1 nv.2 v0 v1:=⟨_,rfl⟩
    rw [← hg0,← hg1,← hg2] at hop HG
    subst hop
    have i0 : (0 < acc.length) = True:=eq_true (by omega)
    have i1 : ((0 : Int) < (acc.length : Int)) = True:=eq_true (by omega)
    clear hg0 hg1 hg2 hv0 hv1 hl1 hal hlv
    cases eV
    have cl:=bc_ HS.out.x2 4
    have ck:=bc_ HS.out.x2 0
    have cct:=bc_ HS.out.x2 3
    go_wp2_with fail
    refine start_ (n:=13) (S:=fun w' => w'.cell? ⟨w.heap.size + 1 + 1,3,none⟩ = some (.string tx) ∧ w'.cell? adV = some (.int .i64 v0) ∧ w'.cell? ⟨adV.block,adV.off + 1,none⟩ = some (.int .i64 v1)) (ds:=[11]) #[false,false,false,false,false,false,false,false,false,false,false,false,false] (by kernel_rfl) rfl rfl ⟨zAg cct,zAg y0,zAg y1⟩ (fun hHeld => ?_)
    refine pu_ 0 72 ?_
    refine pu_ 1 73 ?_
    refine pu_ 2 74 ?_
    refine pu_ 5 77 ?_
    refine pu_ 6 78 ?_
    refine ta_ 3 75 hHeld ?_
    refine ta_ 7 79 hHeld ?_
    refine on_ 4 (some 76) (fun K hK => ?_)
    refine gs_ Tryz.func46 #[.slice An nl.length cn,.string tx] ?_
    with_reducible refine (HX.out _ (zAk (Below.refl wr.heap.size wr))).mono ?_
    rintro e_ W2 ⟨rfl,hb_⟩
    refine ⟨_,rfl,?_⟩
    have HB2:=Lib.hid (zAd (zAk (Below.refl wr.heap.size wr)) hb_)
    have HS2:=Lib.hid (HS.out.below HB2.out)
    clear hb_
    refine hK.out _ _ ⟨zAb HB2.out cct,zAb HB2.out y0,zAb HB2.out y1⟩ (fun hHeld => ?_)
    clear hK K
    refine no_ ?_
    refine on_ 8 (some 80) (fun K hK => ?_)
    refine gs_ Tryz.func18 #[.pointer (some ⟨Bm,0,none⟩),.agg #[.int .i64 nv.1,.int .i64 nv.2],.agg #[.int .i64 v0,.int .i64 v1]] ?_
    with_reducible refine (HG.out _ HB2.out).mono ?_
    rintro e_ W3 ⟨rfl,hb_⟩
    refine ⟨_,rfl,?_⟩
    have HB3:=Lib.hid (zAd HB2.out hb_)
    have HS3:=Lib.hid (HS.out.below HB3.out)
    clear hb_
    refine hK.out _ _ ⟨zAb HB3.out cct,zAb HB3.out y0,zAb HB3.out y1⟩ (fun hHeld => ?_)
    clear hK K
    refine no_ ?_
    refine pu_ 9 81 ?_
    refine pu_ 10 82 ?_
    refine last_ (i:=11) (N:=none) #[true,true,true,true,true,true,true,true,true,true,true,true,false] rfl rfl (by kernel_rfl) (by decide) (fun K hK => ?_)
    have d0:=bc_ HS3.out.x1 0
    have d1:=bc_ HS3.out.x1 1
    have f0:=zAc HS3.out.x1 0
    have f1:=zAc HS3.out.x1 1
    refine skip_ (w1:=?_) (by rfl) rfl ?_ ?_
    rotate_left
    ·go_simp
     rfl
    refine hK.out _ _ ?_
    clear hK K
    refine pu_ 12 9 ?_
    refine done_ (by kernel_rfl) ?_
    go_wp2_with fail
    refine bodyPost_ret (zAq rfl _ _ (w.heap.size + 1) 49 #[.int .i64 (g0),.int .i64 (g1)] (0,0) _ rfl (blk_put (blk_put HS3.out.x1 0 _ rfl) 1 _ rfl) Tryz.underlying49 rfl (by kernel_rfl)) rfl ?_
    exact ⟨rfl,(HS3.out.hB.setCell (by show w.heap.size ≤ w.heap.size + 1; omega) _).setCell (by show w.heap.size ≤ w.heap.size + 1; omega) _⟩
   ·rw [if_neg (by decide),if_neg (by decide),if_neg (by decide),if_neg (by decide),if_pos rfl] at hop
    obtain ⟨nv,hnv⟩ : ∃ nv,nv = nameF nl tx.data.toList:=⟨_,rfl⟩
    have HX:=Lib.hid (fun (W : World) (hb : Below wr.heap.size wr W) => zDp An cn nl HEW.out.hnl HEW.out.hcn tx W (Kd.C_below HEW.out.hN hb))
    rw [← hnv] at hop HX
    clear hnv
    have HG:=Lib.hid (fun (W : World) (hb : Below wr.heap.size wr W) => mlen nv.1 nv.2 (HEW.out.below hb).hH HEW.out.hL)
    obtain ⟨g0,hg0⟩ : ∃ g0,g0 = lenF L nv.1 nv.2:=⟨_,rfl⟩
    rw [← hg0] at hop HG
    subst hop
    clear hg0 hlv
    have cl:=bc_ HS.out.x2 4
    have ck:=bc_ HS.out.x2 0
    have cct:=bc_ HS.out.x2 3
    go_wp2_with fail
    refine (HX.out wr (Below.refl _ _)).mono ?_
    rintro e_ W2 ⟨rfl,hb_⟩
    have HB2:=Lib.hid hb_
    clear hb_ ck cct
    go_wp2_with fail
    refine (HG.out W2 HB2.out).mono ?_
    rintro e_ W3 ⟨rfl,hb_⟩
    have HS3:=Lib.hid (HS.out.below (zAd HB2.out hb_))
    clear hb_
    have d0:=bc_ HS3.out.x1 0
    have d1:=bc_ HS3.out.x1 1
    have f0:=zAc HS3.out.x1 0
    have f1:=zAc HS3.out.x1 1
    go_wp2_with fail
    refine bodyPost_ret (zAq rfl _ _ (w.heap.size + 1) 49 #[.int .i64 (1),.int .i64 (g0)] (0,0) _ rfl (blk_put (blk_put HS3.out.x1 0 _ rfl) 1 _ rfl) Tryz.underlying49 rfl (by kernel_rfl)) rfl ?_
    exact ⟨rfl,(HS3.out.hB.setCell (by show w.heap.size ≤ w.heap.size + 1; omega) _).setCell (by show w.heap.size ≤ w.heap.size + 1; omega) _⟩
   ·rw [if_neg (by decide),if_neg (by decide),if_neg (by decide),if_neg (by decide),if_neg (by decide),if_pos rfl] at hop
    have HX:=Lib.hid (rProc_is (some ad) ct ns root ol ps tx wr HEW.out.hW HEW.out.hT)
    have hpr:=zBd ns tx.data.toList
    have hnn:=HR.out.fit.1
    obtain ⟨pp,hpp⟩ : ∃ pp,pp = procF ns tx.data.toList:=⟨_,rfl⟩
    rw [← hpp] at hop HX hpr
    have hw1:=i64_id (pp + 1) (by omega) (by omega)
    subst hop
    clear hpp hpr hlv
    have cl:=bc_ HS.out.x2 4
    have ck:=bc_ HS.out.x2 0
    have cct:=bc_ HS.out.x2 3
    have c0:=bc_ HS.out.x0 0
    have c1:=bc_ HS.out.x0 1
    go_wp2_with fail
    refine HX.out.mono ?_
    rintro e_ W2 ⟨rfl,hb_⟩
    have HS2:=Lib.hid (HS.out.below hb_)
    clear hb_ ck cct c0 c1
    have d0:=bc_ HS2.out.x1 0
    have d1:=bc_ HS2.out.x1 1
    have f0:=zAc HS2.out.x1 0
    have f1:=zAc HS2.out.x1 1
    go_wp2_with fail
    refine bodyPost_ret (zAq rfl _ _ (w.heap.size + 1) 49 #[.int .i64 (4),.int .i64 (pp + 1)] (0,0) _ rfl (blk_put (blk_put HS2.out.x1 0 _ rfl) 1 _ rfl) Tryz.underlying49 rfl (by kernel_rfl)) rfl ?_
    exact ⟨rfl,(HS2.out.hB.setCell (by show w.heap.size ≤ w.heap.size + 1; omega) _).setCell (by show w.heap.size ≤ w.heap.size + 1; omega) _⟩
   ·rw [if_neg (by decide),if_neg (by decide),if_neg (by decide),if_neg (by decide),if_neg (by decide),if_neg (by decide),if_pos rfl] at hop
    have hl1:=HKE.out.1 (.inr HK0.out)
    have hal : acc.length = 1:=by omega
    obtain ⟨v0,hv0⟩ : ∃ v0,v0 = (acc.getD 0 (0,0)).1:=⟨_,rfl⟩
    obtain ⟨v1,hv1⟩ : ∃ v1,v1 = (acc.getD 0 (0,0)).2:=⟨_,rfl⟩
    rw [← hv0,← hv1] at hop
    obtain ⟨adV,eV,y0,y1⟩:=vv_at HCV.out 0 (by omega)
    rw [← hv0,Nat.zero_mul,rz] at y0
    rw [← hv1,Nat.zero_mul,rz] at y1
    obtain ⟨u,hu⟩ : ∃ u,u = unF tx v0 v1:=⟨_,rfl⟩
    rw [← hu] at hop
    obtain ⟨u1,u2,u3⟩:=u
    have HUN:=Lib.hid (fun W => un9_is tx v0 v1 u1 u2 u3 hu W)
    obtain ⟨te,hte⟩ : ∃ te,te = exprF ns ol q:=⟨_,rfl⟩
    have HTY:=Lib.hid (fun (W : World) (hb : Below wr.heap.size wr W) => rType_is (some ad) ct ns root ol ps q h0 h1 W (HEW.out.below hb).hW (HEW.out.below hb).hT)
    rw [← hte] at hop HTY
    have HOP:=Lib.hid hop
    dsimp only at HOP
    have i0 : (0 < acc.length) = True:=eq_true (by omega)
    have i1 : ((0 : Int) < (acc.length : Int)) = True:=eq_true (by omega)
    clear hu hop hte hl1 hal hlv hv0 hv1
    cases eV
    have cl:=bc_ HS.out.x2 4
    have ck:=bc_ HS.out.x2 0
    have cct:=bc_ HS.out.x2 3
    have c0:=bc_ HS.out.x0 0
    have c1:=bc_ HS.out.x0 1
    go_wp2_with fail
    refine start_ (n:=12) (S:=fun w' => w'.cell? ⟨w.heap.size + 1 + 1,3,none⟩ = some (.string tx) ∧ w'.cell? ⟨w.heap.size,0,none⟩ = some (.slice (some ad) ns.length ct) ∧ w'.cell? ⟨w.heap.size,1,none⟩ = some (.int .i64 root) ∧ w'.cell? adV = some (.int .i64 v0) ∧ w'.cell? ⟨adV.block,adV.off + 1,none⟩ = some (.int .i64 v1)) (ds:=[10]) #[false,false,false,false,false,false,false,false,false,false,false,false] (by kernel_rfl) rfl rfl ⟨zAg cct,zAg c0,zAg c1,zAg y0,zAg y1⟩ (fun hHeld => ?_)
    refine pu_ 0 103 ?_
    refine pu_ 2 105 ?_
    refine pu_ 3 106 ?_
    refine ta_ 1 104 hHeld ?_
    refine ta_ 4 107 hHeld ?_
    refine join_ (σ:=Nat) 2 #[true,true,true,true,true,true,true,true,true,true,false,false] (fun s => [(108,.tuple #[.agg #[.int .i64 u1,.int .i64 u2],.bool u3]),(102,.tuple #[.agg #[.int .i64 u1,.int .i64 u2],.bool u3]),(109,.agg #[.int .i64 u1,.int .i64 u2]),(110,.bool u3),(15,.pointer (some ⟨s,0,none⟩))]) (fun s w' => Below wr.heap.size wr w' ∧ w'.heap[s]? = some (.cells #[.int .i64 0,.int .i64 0] 49 (0,0)) ∧ wr.heap.size ≤ s) ?_ ?_
    rotate_left
    ·intro hCont
     refine two_ (i:=5) (j:=9) (Ni:=some 108) (Nj:=some 15) #[true,true,true,true,true,true,false,false,false,false,false,false] #[true,true,true,true,true,false,false,false,false,true,false,false] rfl rfl rfl rfl (by kernel_rfl) (by decide) (by decide) (fun K hK => ?_) (fun K hK => ?_)
     ·skip
      refine gs_ Tryz.func49 #[.string tx,.agg #[.int .i64 v0,.int .i64 v1]] ?_
      with_reducible refine (HUN.out _).mono ?_
      rintro e_ wC ⟨rfl,hb_⟩
      refine ⟨_,rfl,?_⟩
      have BC_:=Lib.hid (zAd (zAk (Below.refl wr.heap.size wr)) hb_)
      clear hb_
      refine hK.out _ _ ⟨zAb BC_.out cct,zAb BC_.out c0,zAb BC_.out c1,zAb BC_.out y0,zAb BC_.out y1⟩ (fun hHeld => ?_)
      clear hK K
      refine no_ ?_
      refine pu_ 6 102 ?_
      refine pu_ 7 109 ?_
      refine pu_ 8 110 ?_
      refine on_ 9 (some 15) (fun K hK => ?_)
      refine value_ (w1:=?_) (v:=?_) (by rfl) rfl ?_ ?_
      rotate_left 2
      ·go_simp
       constructor
       ·rfl
       ·rfl
      have BCA:=Lib.hid (zAa BC_.out (.cells #[.int .i64 0,.int .i64 0] 49))
      have NCA : Hid ((wC.alloc (.cells #[.int .i64 0,.int .i64 0] 49)).heap[wC.heap.size]? = some (.cells #[.int .i64 0,.int .i64 0] 49 (0,0))):=Lib.hid (heap_alloc_new wC _)
      refine hK.out _ _ ⟨zAb BCA.out cct,zAb BCA.out c0,zAb BCA.out c1,zAb BCA.out y0,zAb BCA.out y1⟩ (fun hHeld => ?_)
      clear hK K
      refine no_ ?_
      exact norm_ (by simp only [putAll,Act.put,List.setIfInBounds_toArray,List.set_cons_zero,List.set_cons_succ]) (hCont wC.heap.size _ ⟨BCA.out,NCA.out,BC_.out.size⟩)
     ·skip
      refine value_ (w1:=?_) (v:=?_) (by rfl) rfl ?_ ?_
      rotate_left 2
      ·go_simp
       constructor
       ·rfl
       ·rfl
      have BA_ : Hid (Below wr.heap.size wr ((wr.alloc (.cells #[.int .i64 0,.int .i64 0] 49)).drew)):=Lib.hid (zAk (zAa (Below.refl _ _) _))
      have NA_ : Hid (((wr.alloc (.cells #[.int .i64 0,.int .i64 0] 49)).drew).heap[wr.heap.size]? = some (.cells #[.int .i64 0,.int .i64 0] 49 (0,0))):=Lib.hid (zAl (heap_alloc_new wr _))
      refine hK.out _ _ ⟨zAb BA_.out cct,zAb BA_.out c0,zAb BA_.out c1,zAb BA_.out y0,zAb BA_.out y1⟩ (fun hHeld => ?_)
      clear hK K
      refine no_ ?_
      refine on_ 5 (some 108) (fun K hK => ?_)
      refine gs_ Tryz.func49 #[.string tx,.agg #[.int .i64 v0,.int .i64 v1]] ?_
      with_reducible refine (HUN.out _).mono ?_
      rintro e_ wA ⟨rfl,hb_⟩
      refine ⟨_,rfl,?_⟩
      have BAC:=Lib.hid (zAd BA_.out hb_)
      have NAC:=Lib.hid (zAe NA_.out hb_)
      clear hb_
      refine hK.out _ _ ⟨zAb BAC.out cct,zAb BAC.out c0,zAb BAC.out c1,zAb BAC.out y0,zAb BAC.out y1⟩ (fun hHeld => ?_)
      clear hK K
      refine no_ ?_
      refine pu_ 6 102 ?_
      refine pu_ 7 109 ?_
      refine pu_ 8 110 ?_
      exact norm_ (by simp only [putAll,Act.put,List.setIfInBounds_toArray,List.set_cons_zero,List.set_cons_succ]) (hCont wr.heap.size _ ⟨BAC.out,NAC.out,Nat.le_refl _⟩)
    rintro sp wF ⟨hF1,hF2,hF3⟩
    have hHeld:=True.intro
    refine norm_ (a':=?_) ?_ ?_
    rotate_left
    ·simp only [putAll,Act.put,List.setIfInBounds_toArray,List.set_cons_zero,List.set_cons_succ]
     rfl
    refine last_ (i:=10) (N:=none) #[true,true,true,true,true,true,true,true,true,true,true,false] rfl rfl (by kernel_rfl) (by decide) (fun K hK => ?_)
    have cv0:=(zAh hF2 0).trans rfl
    have cv1:=(zAh hF2 1).trans rfl
    have fv0:=zAc hF2 0
    have fv1:=zAc hF2 1
    refine skip_ (w1:=?_) (by rfl) rfl ?_ ?_
    rotate_left
    ·go_simp
     rfl
    refine hK.out _ _ ?_
    clear hK K
    refine pu_ 11 16 ?_
    refine done_ (by kernel_rfl) ?_
    obtain ⟨W2,hw_⟩ : ∃ W2,W2 = (wF.setCell ⟨sp,0,none⟩ (.int .i64 u1)).setCell ⟨sp,1,none⟩ (.int .i64 u2):=⟨_,rfl⟩
    rw [← hw_]
    have hb_ : Below wr.heap.size wr W2:=by rw [hw_]; exact Below.setCell (p:=⟨sp,_,none⟩) (Below.setCell (p:=⟨sp,_,none⟩) hF1 hF3 _) hF3 _
    have nv:=Lib.hid (show W2.heap[sp]? = some (.cells #[.int .i64 u1,.int .i64 u2] 49 (0,0)) by rw [hw_]; exact blk_put (blk_put hF2 0 _ rfl) 1 _ rfl)
    have HS2:=Lib.hid (HS.out.below hb_)
    have HB2:=Lib.hid hb_
    have HSP:=Lib.hid hF3
    clear hF1 hF2 hF3 hw_ hb_ hHeld cct c0 c1 y0 y1 ck cl
    cases u3 with
    | true =>
     have hop:=HOP.out
     rw [if_pos rfl] at hop
     subst hop
     clear HOP
     have v0':=bc_ nv.out 0
     have v1':=bc_ nv.out 1
     have d0:=bc_ HS2.out.x1 0
     have d1:=bc_ HS2.out.x1 1
     have f0:=zAc HS2.out.x1 0
     have f1:=zAc HS2.out.x1 1
     go_wp2_with fail
     refine bodyPost_ret (zAq rfl _ _ (w.heap.size + 1) 49 #[.int .i64 (u1),.int .i64 (u2)] (0,0) _ rfl (blk_put (blk_put HS2.out.x1 0 _ rfl) 1 _ rfl) Tryz.underlying49 rfl (by kernel_rfl)) rfl ?_
     exact ⟨rfl,(HS2.out.hB.setCell (by show w.heap.size ≤ w.heap.size + 1; omega) _).setCell (by show w.heap.size ≤ w.heap.size + 1; omega) _⟩
    | false =>
     have hop:=HOP.out
     rw [if_neg (by decide)] at hop
     subst hop
     clear HOP
     have c0:=bc_ HS2.out.x0 0
     have c1:=bc_ HS2.out.x0 1
     go_wp2_with fail
     refine (HTY.out W2 HB2.out).mono ?_
     rintro e_ W4 ⟨rfl,hb_⟩
     have HS4:=Lib.hid (HS2.out.below hb_)
     clear hb_ c0 c1
     have d0:=bc_ HS4.out.x1 0
     have d1:=bc_ HS4.out.x1 1
     have f0:=zAc HS4.out.x1 0
     have f1:=zAc HS4.out.x1 1
     go_wp2_with fail
     refine bodyPost_ret (zAq rfl _ _ (w.heap.size + 1) 49 #[.int .i64 (te),.int .i64 (0)] (0,0) _ rfl (blk_put (blk_put HS4.out.x1 0 _ rfl) 1 _ rfl) Tryz.underlying49 rfl (by kernel_rfl)) rfl ?_
     exact ⟨rfl,(HS4.out.hB.setCell (by show w.heap.size ≤ w.heap.size + 1; omega) _).setCell (by show w.heap.size ≤ w.heap.size + 1; omega) _⟩
   ·rw [if_neg (by decide),if_neg (by decide),if_neg (by decide),if_neg (by decide),if_neg (by decide),if_neg (by decide),if_neg (by decide)] at hop
    have hl1:=HKE.out.2 HK0.out
    have hal : acc.length = 2:=by omega
    obtain ⟨v0,hv0⟩ : ∃ v0,v0 = (acc.getD 0 (0,0)).1:=⟨_,rfl⟩
    obtain ⟨v1,hv1⟩ : ∃ v1,v1 = (acc.getD 0 (0,0)).2:=⟨_,rfl⟩
    obtain ⟨v2,hv2⟩ : ∃ v2,v2 = (acc.getD 1 (0,0)).1:=⟨_,rfl⟩
    obtain ⟨v3,hv3⟩ : ∃ v3,v3 = (acc.getD 1 (0,0)).2:=⟨_,rfl⟩
    rw [← hv0,← hv1,← hv2,← hv3] at hop
    obtain ⟨adV,eV,y0,y1⟩:=vv_at HCV.out 0 (by omega)
    rw [← hv0,Nat.zero_mul,rz] at y0
    rw [← hv1,Nat.zero_mul,rz] at y1
    obtain ⟨adV',eV',y2,y3⟩:=vv_at HCV.out 1 (by omega)
    rw [eV] at eV'
    cases eV'
    rw [← hv2] at y2
    rw [← hv3] at y3
    have y2 : wr.cell? ⟨adV.block,adV.off + 2,none⟩ = some (.int .i64 v2):=y2
    have y3 : wr.cell? ⟨adV.block,adV.off + 2 + 1,none⟩ = some (.int .i64 v3):=y3
    obtain ⟨u,hu⟩ : ∃ u,u = binF tx v0 v1 v2 v3:=⟨_,rfl⟩
    rw [← hu] at hop
    obtain ⟨u1,u2,u4,u3⟩:=u
    have HUN:=Lib.hid (fun W => bin9_is tx v0 v1 v2 v3 u1 u2 u4 u3 hu W)
    obtain ⟨te,hte⟩ : ∃ te,te = exprF ns ol q:=⟨_,rfl⟩
    have HTY:=Lib.hid (fun (W : World) (hb : Below wr.heap.size wr W) => rType_is (some ad) ct ns root ol ps q h0 h1 W (HEW.out.below hb).hW (HEW.out.below hb).hT)
    rw [← hte] at hop HTY
    have HOP:=Lib.hid hop
    dsimp only at HOP
    have i0 : (0 < acc.length) = True:=eq_true (by omega)
    have i1 : ((0 : Int) < (acc.length : Int)) = True:=eq_true (by omega)
    have i2 : ((1 : Int) < (acc.length : Int)) = True:=eq_true (by omega)
    clear hu hop hte hl1 hal hlv hv0 hv1 hv2 hv3
    cases eV
    have cl:=bc_ HS.out.x2 4
    have ck:=bc_ HS.out.x2 0
    have cct:=bc_ HS.out.x2 3
    have c0:=bc_ HS.out.x0 0
    have c1:=bc_ HS.out.x0 1
    go_wp2_with fail
    refine start_ (n:=17) (S:=fun w' => w'.cell? ⟨w.heap.size + 1 + 1,3,none⟩ = some (.string tx) ∧ w'.cell? ⟨w.heap.size,0,none⟩ = some (.slice (some ad) ns.length ct) ∧ w'.cell? ⟨w.heap.size,1,none⟩ = some (.int .i64 root) ∧ w'.cell? adV = some (.int .i64 v0) ∧ w'.cell? ⟨adV.block,adV.off + 1,none⟩ = some (.int .i64 v1) ∧ w'.cell? ⟨adV.block,adV.off + 2,none⟩ = some (.int .i64 v2) ∧ w'.cell? ⟨adV.block,adV.off + 2 + 1,none⟩ = some (.int .i64 v3)) (ds:=[14]) #[false,false,false,false,false,false,false,false,false,false,false,false,false,false,false,false,false] (by kernel_rfl) rfl rfl ⟨zAg cct,zAg c0,zAg c1,zAg y0,zAg y1,zAg y2,zAg y3⟩ (fun hHeld => ?_)
    refine pu_ 0 119 ?_
    refine pu_ 2 121 ?_
    refine pu_ 3 122 ?_
    refine pu_ 5 124 ?_
    refine pu_ 6 125 ?_
    refine ta_ 1 120 hHeld ?_
    refine ta_ 4 123 hHeld ?_
    refine ta_ 7 126 hHeld ?_
    refine join_ (σ:=Nat) 3 #[true,true,true,true,true,true,true,true,true,true,true,true,true,true,false,false,false] (fun s => [(127,.tuple #[.agg #[.int .i64 u1,.int .i64 u2],.int .i64 u4,.bool u3]),(118,.tuple #[.agg #[.int .i64 u1,.int .i64 u2],.int .i64 u4,.bool u3]),(128,.agg #[.int .i64 u1,.int .i64 u2]),(129,.int .i64 u4),(130,.bool u3),(17,.pointer (some ⟨s,0,none⟩))]) (fun s w' => Below wr.heap.size wr w' ∧ w'.heap[s]? = some (.cells #[.int .i64 0,.int .i64 0] 49 (0,0)) ∧ wr.heap.size ≤ s) ?_ ?_
    rotate_left
    ·intro hCont
     refine two_ (i:=8) (j:=13) (Ni:=some 127) (Nj:=some 17) #[true,true,true,true,true,true,true,true,true,false,false,false,false,false,false,false,false] #[true,true,true,true,true,true,true,true,false,false,false,false,false,true,false,false,false] rfl rfl rfl rfl (by kernel_rfl) (by decide) (by decide) (fun K hK => ?_) (fun K hK => ?_)
     ·skip
      refine gs_ Tryz.func51 #[.string tx,.agg #[.int .i64 v0,.int .i64 v1],.agg #[.int .i64 v2,.int .i64 v3]] ?_
      with_reducible refine (HUN.out _).mono ?_
      rintro e_ wC ⟨rfl,hb_⟩
      refine ⟨_,rfl,?_⟩
      have BC_:=Lib.hid (zAd (zAk (Below.refl wr.heap.size wr)) hb_)
      clear hb_
      refine hK.out _ _ ⟨zAb BC_.out cct,zAb BC_.out c0,zAb BC_.out c1,zAb BC_.out y0,zAb BC_.out y1,zAb BC_.out y2,zAb BC_.out y3⟩ (fun hHeld => ?_)
      clear hK K
      refine no_ ?_
      refine pu_ 9 118 ?_
      refine pu_ 10 128 ?_
      refine pu_ 11 129 ?_
      refine pu_ 12 130 ?_
      refine on_ 13 (some 17) (fun K hK => ?_)
      refine value_ (w1:=?_) (v:=?_) (by rfl) rfl ?_ ?_
      rotate_left 2
      ·go_simp
       constructor
       ·rfl
       ·rfl
      have BCA:=Lib.hid (zAa BC_.out (.cells #[.int .i64 0,.int .i64 0] 49))
      have NCA : Hid ((wC.alloc (.cells #[.int .i64 0,.int .i64 0] 49)).heap[wC.heap.size]? = some (.cells #[.int .i64 0,.int .i64 0] 49 (0,0))):=Lib.hid (heap_alloc_new wC _)
      refine hK.out _ _ ⟨zAb BCA.out cct,zAb BCA.out c0,zAb BCA.out c1,zAb BCA.out y0,zAb BCA.out y1,zAb BCA.out y2,zAb BCA.out y3⟩ (fun hHeld => ?_)
      clear hK K
      refine no_ ?_
      exact norm_ (by simp only [putAll,Act.put,List.setIfInBounds_toArray,List.set_cons_zero,List.set_cons_succ]) (hCont wC.heap.size _ ⟨BCA.out,NCA.out,BC_.out.size⟩)
     ·skip
      refine value_ (w1:=?_) (v:=?_) (by rfl) rfl ?_ ?_
      rotate_left 2
      ·go_simp
       constructor
       ·rfl
       ·rfl
      have BA_ : Hid (Below wr.heap.size wr ((wr.alloc (.cells #[.int .i64 0,.int .i64 0] 49)).drew)):=Lib.hid (zAk (zAa (Below.refl _ _) _))
      have NA_ : Hid (((wr.alloc (.cells #[.int .i64 0,.int .i64 0] 49)).drew).heap[wr.heap.size]? = some (.cells #[.int .i64 0,.int .i64 0] 49 (0,0))):=Lib.hid (zAl (heap_alloc_new wr _))
      refine hK.out _ _ ⟨zAb BA_.out cct,zAb BA_.out c0,zAb BA_.out c1,zAb BA_.out y0,zAb BA_.out y1,zAb BA_.out y2,zAb BA_.out y3⟩ (fun hHeld => ?_)
      clear hK K
      refine no_ ?_
      refine on_ 8 (some 127) (fun K hK => ?_)
      refine gs_ Tryz.func51 #[.string tx,.agg #[.int .i64 v0,.int .i64 v1],.agg #[.int .i64 v2,.int .i64 v3]] ?_
      with_reducible refine (HUN.out _).mono ?_
      rintro e_ wA ⟨rfl,hb_⟩
      refine ⟨_,rfl,?_⟩
      have BAC:=Lib.hid (zAd BA_.out hb_)
      have NAC:=Lib.hid (zAe NA_.out hb_)
      clear hb_
      refine hK.out _ _ ⟨zAb BAC.out cct,zAb BAC.out c0,zAb BAC.out c1,zAb BAC.out y0,zAb BAC.out y1,zAb BAC.out y2,zAb BAC.out y3⟩ (fun hHeld => ?_)
      clear hK K
      refine no_ ?_
      refine pu_ 9 118 ?_
      refine pu_ 10 128 ?_
      refine pu_ 11 129 ?_
      refine pu_ 12 130 ?_
      exact norm_ (by simp only [putAll,Act.put,List.setIfInBounds_toArray,List.set_cons_zero,List.set_cons_succ]) (hCont wr.heap.size _ ⟨BAC.out,NAC.out,Nat.le_refl _⟩)
    rintro sp wF ⟨hF1,hF2,hF3⟩
    have hHeld:=True.intro
    refine norm_ (a':=?_) ?_ ?_
    rotate_left
    ·simp only [putAll,Act.put,List.setIfInBounds_toArray,List.set_cons_zero,List.set_cons_succ]
     rfl
    refine last_ (i:=14) (N:=none) #[true,true,true,true,true,true,true,true,true,true,true,true,true,true,true,false,false] rfl rfl (by kernel_rfl) (by decide) (fun K hK => ?_)
    have cv0:=(zAh hF2 0).trans rfl
    have cv1:=(zAh hF2 1).trans rfl
    have fv0:=zAc hF2 0
    have fv1:=zAc hF2 1
    refine skip_ (w1:=?_) (by rfl) rfl ?_ ?_
    rotate_left
    ·go_simp
     rfl
    refine hK.out _ _ ?_
    clear hK K
    refine pu_ 15 18 ?_
    refine pu_ 16 19 ?_
    refine done_ (by kernel_rfl) ?_
    obtain ⟨W2,hw_⟩ : ∃ W2,W2 = (wF.setCell ⟨sp,0,none⟩ (.int .i64 u1)).setCell ⟨sp,1,none⟩ (.int .i64 u2):=⟨_,rfl⟩
    rw [← hw_]
    have hb_ : Below wr.heap.size wr W2:=by rw [hw_]; exact Below.setCell (p:=⟨sp,_,none⟩) (Below.setCell (p:=⟨sp,_,none⟩) hF1 hF3 _) hF3 _
    have nv:=Lib.hid (show W2.heap[sp]? = some (.cells #[.int .i64 u1,.int .i64 u2] 49 (0,0)) by rw [hw_]; exact blk_put (blk_put hF2 0 _ rfl) 1 _ rfl)
    have HS2:=Lib.hid (HS.out.below hb_)
    have HB2:=Lib.hid hb_
    have HSP:=Lib.hid hF3
    clear hF1 hF2 hF3 hw_ hb_ hHeld cct c0 c1 y0 y1 y2 y3 ck cl
    cases u3 with
    | true =>
     have hop:=HOP.out
     rw [if_pos rfl] at hop
     subst hop
     clear HOP
     have v0':=bc_ nv.out 0
     have v1':=bc_ nv.out 1
     have d0:=bc_ HS2.out.x1 0
     have d1:=bc_ HS2.out.x1 1
     have f0:=zAc HS2.out.x1 0
     have f1:=zAc HS2.out.x1 1
     go_wp2_with fail
     refine bodyPost_ret (zAq rfl _ _ (w.heap.size + 1) 49 #[.int .i64 (u1),.int .i64 (u2)] (0,0) _ rfl (blk_put (blk_put HS2.out.x1 0 _ rfl) 1 _ rfl) Tryz.underlying49 rfl (by kernel_rfl)) rfl ?_
     exact ⟨rfl,(HS2.out.hB.setCell (by show w.heap.size ≤ w.heap.size + 1; omega) _).setCell (by show w.heap.size ≤ w.heap.size + 1; omega) _⟩
    | false =>
     have hop:=HOP.out
     rw [if_neg (by decide)] at hop
     subst hop
     clear HOP
     have c0:=bc_ HS2.out.x0 0
     have c1:=bc_ HS2.out.x0 1
     go_wp2_with fail
     refine (HTY.out W2 HB2.out).mono ?_
     rintro e_ W4 ⟨rfl,hb_⟩
     have HS4:=Lib.hid (HS2.out.below hb_)
     clear hb_ c0 c1
     have d0:=bc_ HS4.out.x1 0
     have d1:=bc_ HS4.out.x1 1
     have f0:=zAc HS4.out.x1 0
     have f1:=zAc HS4.out.x1 1
     go_wp2_with fail
     refine bodyPost_ret (zAq rfl _ _ (w.heap.size + 1) 49 #[.int .i64 (te),.int .i64 (0)] (0,0) _ rfl (blk_put (blk_put HS4.out.x1 0 _ rfl) 1 _ rfl) Tryz.underlying49 rfl (by kernel_rfl)) rfl ?_
     exact ⟨rfl,(HS4.out.hB.setCell (by show w.heap.size ≤ w.heap.size + 1; omega) _).setCell (by show w.heap.size ≤ w.heap.size + 1; omega) _⟩
end Go.Proofs.YtkhlfdcjgooogaaGreat.P
