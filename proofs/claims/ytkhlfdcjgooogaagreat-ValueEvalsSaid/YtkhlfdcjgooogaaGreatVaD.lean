import Derived.Test.YtkhlfdcjgooogaaGreatWMore
import Derived.Test.YtkhlfdcjgooogaaGreatHeapI
set_option maxRecDepth 100000
set_option maxHeartbeats 16000000
set_option linter.unusedVariables false
set_option linter.unusedSimpArgs false
set_option linter.unusedSectionVars false
namespace Go.Proofs.YtkhlfdcjgooogaaGreat.P
open Go.RowKit Go.Proofs.YtkhlfdcjgooogaaGreatW.PrintWords Go.Proofs.YtkhlfdcjgooogaaGreatW.PrintLast Go.Proofs.YtkhlfdcjgooogaaGreatW.PrintMore
structure EvS (w0 : World) (ev nd : Array Value) (acc : List (Int × Int)) (W : World) : Prop where
 x0 : W.heap[w0.heap.size]? = some (.cells ev 76 (0,0))
 x4 : W.heap[w0.heap.size + 1]? = some (.cells #[.int .i64 0,.int .i64 0] 43 (0,0))
 x6 : W.heap[w0.heap.size + 1 + 1]? = some (.cells nd 66 (0,0))
 x7 : W.heap[w0.heap.size + 1 + 1 + 1]? = some (.cells (pairC acc) 92 (0,0))
 hB : Below w0.heap.size w0 W
theorem EvS.below {w0 W W' : World} {ev nd : Array Value} {acc : List (Int × Int)} (h : EvS w0 ev nd acc W) (hb : Below W.heap.size W W') : EvS w0 ev nd acc W' :=
 ⟨zAe h.x0 hb,zAe h.x4 hb,zAe h.x6 hb,zAe h.x7 hb,zAd h.hB hb⟩
theorem EvS.put {w0 W : World} {ev nd : Array Value} {acc : List (Int × Int)} (h : EvS w0 ev nd acc W) (a b : Int) (hl : acc.length ≤ 1) :
  EvS w0 ev nd (acc ++ [(a,b)]) ((W.setCell ⟨w0.heap.size + 1 + 1 + 1,2 * acc.length,none⟩ (.int .i64 a)).setCell ⟨w0.heap.size + 1 + 1 + 1,2 * acc.length + 1,none⟩ (.int .i64 b)):=by
 refine ⟨blk_far (blk_far h.x0 (by simp <;> omega) _) (by simp <;> omega) _,blk_far (blk_far h.x4 (by simp <;> omega) _) (by simp <;> omega) _,blk_far (blk_far h.x6 (by simp) _) (by simp) _,?_,(h.hB.setCell (by show w0.heap.size ≤ w0.heap.size + 1 + 1 + 1; omega) _).setCell (by show w0.heap.size ≤ w0.heap.size + 1 + 1 + 1; omega) _⟩
 refine blk_put (blk_put h.x7 _ _ rfl) _ _ ?_
 match acc,hl with
 | [],_ => rfl
 | [x],_ => rfl
theorem EvS.start (w : World) (ev nd : Array Value) : EvS w ev nd [] ((((w.alloc (.cells ev 76)).alloc (.cells #[.int .i64 0,.int .i64 0] 43)).alloc (.cells nd 66)).alloc (.cells #[.int .i64 0,.int .i64 0,.int .i64 0,.int .i64 0] 92)):=by
 have e1 : (w.alloc (.cells ev 76)).heap.size = w.heap.size + 1:=by simp
 have e2 : ((w.alloc (.cells ev 76)).alloc (.cells #[.int .i64 0,.int .i64 0] 43)).heap.size = w.heap.size + 1 + 1:=by simp
 have e3 : (((w.alloc (.cells ev 76)).alloc (.cells #[.int .i64 0,.int .i64 0] 43)).alloc (.cells nd 66)).heap.size = w.heap.size + 1 + 1 + 1:=by simp
 refine ⟨zAj (zAj (zAj (blk_new w _) _) _) _,?_,?_,?_,zAa (zAa (zAa (zAa (Below.refl _ _) _) _) _) _⟩
 ·rw [← e1]; exact zAj (zAj (blk_new _ _) _) _
 ·rw [← e2]; exact zAj (blk_new _ _) _
 ·rw [← e3]; exact blk_new _ _
theorem eval_step (At : Option Addr) (ct : Nat) (ns : List S66) (root : Int) (ol : List Int) (hR : Rt ns root ol) (hrb : rtB ns root true) (An : Option Addr) (cn : Nat) (nl : List NV) (Bh : Nat) (ok : Nat → Prop) (L : List (List Int)) (g : Int → Int × Int × Int)
  (q : Int) (h0 : 0 ≤ q) (h1 : q < ns.length) (hk1 : 20 ≤ kdOf ns q) (hk2 : kdOf ns q ≤ 27) (hkn : (rd_T66 ns q).f4.length ≤ 2)
  (IH : ∀ kid ∈ (rd_T66 ns q).f4,∀ w,EvW At ct ns An cn nl Bh ok L w → Calls Tryz.prog 21 #[.agg #[.slice At ns.length ct,.int .i64 root,.slice An nl.length cn,.pointer (some ⟨Bh,0,none⟩)],.int .i64 kid] w fun e w' => e = .returned (.tuple #[.agg #[.int .i64 (g kid).1,.int .i64 (g kid).2.1],.int .i64 (g kid).2.2]) ∧ Below w.heap.size w w')
  (w : World) (hW : EvW At ct ns An cn nl Bh ok L w) (r : Int × Int × Int) (hr : r = if (kidsF g (rd_T66 ns q).f4 []).2 = 0 then opF ns ol nl L q (kidsF g (rd_T66 ns q).f4 []).1 else (0,0,(kidsF g (rd_T66 ns q).f4 []).2)) :
  Calls Tryz.prog 21 #[.agg #[.slice At ns.length ct,.int .i64 root,.slice An nl.length cn,.pointer (some ⟨Bh,0,none⟩)],.int .i64 q] w fun e w' => e = .returned (.tuple #[.agg #[.int .i64 r.1,.int .i64 r.2.1],.int .i64 r.2.2]) ∧ Below w.heap.size w w':=by
 have hmemq:=zAA ns q h0 h1
 have hsz:=hR.sz _ hmemq
 have hkin:=(hR.fit.2 _ hmemq).1
 obtain ⟨x,hx⟩ : ∃ x,x = rd_T66 ns q:=⟨_,rfl⟩
 have hk0 : kdOf ns q = (rd_T66 ns q).f0:=rfl
 have ht0 : nmOf ns q = (rd_T66 ns q).f3.data.toList:=rfl
 have hn0 : nOf ns q = (rd_T66 ns q).f1:=rfl
 have hf0 : (rd_T66 ns q).f3 = x.f3:=by rw [hx]
 have hb1 : Below w.heap.size w ((w.alloc (.cells #[.slice At ns.length ct,.int .i64 root,.slice An nl.length cn,.pointer (some ⟨Bh,0,none⟩)] 76)).alloc (.cells #[.int .i64 0,.int .i64 0] 43)):=zAa (zAa (Below.refl _ _) _) _
 have x01:=zAj (blk_new w (.cells #[.slice At ns.length ct,.int .i64 root,.slice An nl.length cn,.pointer (some ⟨Bh,0,none⟩)] 76)) (.cells #[.int .i64 0,.int .i64 0] 43)
 obtain ⟨Wb,hWb⟩ : ∃ W_,W_ = (w.alloc (.cells #[.slice At ns.length ct,.int .i64 root,.slice An nl.length cn,.pointer (some ⟨Bh,0,none⟩)] 76)).alloc (.cells #[.int .i64 0,.int .i64 0] 43):=⟨_,rfl⟩
 rw [← hWb] at hb1 x01
 obtain ⟨ad,A4,c4,eA,z0,z1,z2,z3,z4,l4,g4⟩:=at_T66 hW.hC q h0 h1
 replace z0:=zAb hb1 z0
 replace z1:=zAb hb1 z1
 replace z2:=zAb hb1 z2
 replace z3:=zAb hb1 z3
 replace z4:=zAb hb1 z4
 have cp0:=bc_ x01 0
 have e0:=eq_true h0
 have e1:=eq_true h1
 rw [← hx] at z0 z1 z2 z3 z4 l4 g4 hk0 ht0 hn0 hkn IH hr hsz hkin
 obtain ⟨k,n,at_,tx,kl⟩:=x
 dsimp only at z0 z1 z2 z3 z4 l4 g4 hk0 ht0 hn0 hkn IH hr hsz hkin hf0
 have S0:=EvS.start w #[.slice At ns.length ct,.int .i64 root,.slice An nl.length cn,.pointer (some ⟨Bh,0,none⟩)] #[.int .i64 k,.int .i64 n,.int .i64 at_,.string tx,.slice A4 kl.length c4]
 rw [← hWb] at S0
 obtain ⟨W0,hW0⟩ : ∃ W_,W_ = (Wb.alloc (.cells #[.int .i64 k,.int .i64 n,.int .i64 at_,.string tx,.slice A4 kl.length c4] 66)).alloc (.cells #[.int .i64 0,.int .i64 0,.int .i64 0,.int .i64 0] 92):=⟨_,rfl⟩
 rw [← hW0] at S0
 have HS0:=Lib.hid S0
 have HCK:=Lib.hid (fun (W : World) (hb : Below w.heap.size w W) => Kd.C_below g4 hb)
 have HW:=Lib.hid (fun (W : World) (hb : Below w.heap.size w W) => hW.below hb)
 have c40:=bc_ S0.x6 4
 have HIH:=Lib.hid IH
 have HR:=Lib.hid hR
 have HRB:=Lib.hid hrb
 have HRR:=Lib.hid hr
 have HK0:=Lib.hid hk0
 have HT0:=Lib.hid ht0
 have HN0:=Lib.hid hn0
 have HSZ:=Lib.hid hsz
 have HK1:=Lib.hid hk1
 have HK2:=Lib.hid hk2
 have HF0:=Lib.hid hf0
 have HKN:=Lib.hid hkin
 have HW0:=Lib.hid hW0
 rw [hW0] at c40
 rw [hWb] at z0 z1 z2 z3 z4 cp0 c40
 have HWb:=Lib.hid hWb
 cases eA
 clear hb1 x01 S0 hW0 hWb IH hR hrb hr hk0 ht0 hn0 hsz hk1 hk2 hf0 hkin hx hmemq hW g4
 go_enter Tryz.func21,Tryz.ntmps21
 go_wp2_with fail
 rw [← HWb.out,← HW0.out]
 clear z0 z1 z2 z3 z4 cp0 c40 e0 e1
 go_loopg [26] (kl.length + 1) (fun kq v26 W => ∃ (j : Nat) (acc : List (Int × Int)),v26 = .int .i64 j ∧ j ≤ kl.length ∧ Hid (j + kq = kl.length + 1) ∧ Hid (acc.length = j) ∧ Hid (kidsF g kl [] = kidsF g (kl.drop j) acc) ∧ Hid (EvS w #[.slice (some ad) ns.length ct,.int .i64 root,.slice An nl.length cn,.pointer (some ⟨Bh,0,none⟩)] #[.int .i64 k,.int .i64 n,.int .i64 at_,.string tx,.slice A4 kl.length c4] acc W))
 case atStart => exact ⟨0,[],rfl,Nat.zero_le _,Lib.hid (by omega),Lib.hid rfl,Lib.hid (by rw [List.drop_zero]),HS0⟩
 case round =>
  obtain ⟨j,acc,rfl,hj,HN,HL,HF,HS⟩:=hrel
  by_cases hlt : j < kl.length
  ·obtain ⟨adK,eK,y0⟩:=Kd.at_int (HCK.out wr HS.out.hB) (j : Int) (by omega) (by omega)
   have hq : rd kl (j : Int) = kl[j]:=by simp [rd,hlt]
   rw [hq,Int.toNat_natCast] at y0
   have hst : kidsF g kl [] = if (g kl[j]).2.2 = 0 then kidsF g (kl.drop (j + 1)) (acc ++ [((g kl[j]).1,(g kl[j]).2.1)]) else ([],(g kl[j]).2.2):=by rw [HF.out,List.drop_eq_getElem_cons hlt,kidsF]
   have hih:=HIH.out kl[j] (List.getElem_mem hlt) wr (HW.out wr HS.out.hB)
   obtain ⟨kv,hkv⟩ : ∃ kv,kv = kl[j]:=⟨_,rfl⟩
   rw [← hkv] at y0 hst hih
   obtain ⟨ra,hra⟩ : ∃ ra,ra = (g kv).1:=⟨_,rfl⟩
   obtain ⟨rb,hrb⟩ : ∃ rb,rb = (g kv).2.1:=⟨_,rfl⟩
   obtain ⟨rc,hrc⟩ : ∃ rc,rc = (g kv).2.2:=⟨_,rfl⟩
   rw [← hra,← hrb,← hrc] at hst hih
   have HST:=Lib.hid hst
   have HX:=Lib.hid hih
   have ev0:=bc_ HS.out.x0 0
   have ev1:=bc_ HS.out.x0 1
   have ev2:=bc_ HS.out.x0 2
   have ev3:=bc_ HS.out.x0 3
   cases eK
   clear hq hkv hst hih hra hrb hrc
   go_wp2_with fail
   refine HX.out.mono ?_
   rintro e_ W2 ⟨rfl,hb_⟩
   have HS2:=Lib.hid (HS.out.below hb_)
   clear hb_ ev0 ev1 ev2 ev3 y0
   have HS3:=Lib.hid (HS2.out.below (zAa (Below.refl W2.heap.size W2) (.cells #[.int .i64 ra,.int .i64 rb] 43)))
   by_cases hrc : rc = 0
   ·have hst:=HST.out
    rw [if_pos hrc] at hst
    have HST2:=Lib.hid hst
    subst hrc
    clear hst HST
    have hl:=HL.out
    have HP:=Lib.hid (HS3.out.put ra rb (by omega))
    rw [hl] at HP
    have hj2 : j = 0 ∨ j = 1:=by omega
    have x7:=HS3.out.x7
    clear hl
    rcases hj2 with rfl | rfl
    ·have d0:=bc_ x7 0
     have d1:=bc_ x7 1
     obtain ⟨o0,ho0⟩ : ∃ o0,o0 = (acc.getD 0 (0,0)).1:=⟨_,rfl⟩
     obtain ⟨o1,ho1⟩ : ∃ o1,o1 = (acc.getD 0 (0,0)).2:=⟨_,rfl⟩
     rw [← ho0] at d0
     rw [← ho1] at d1
     have f0:=zAc x7 0
     have f1:=zAc x7 1
     clear x7 ho0 ho1
     go_wp2_with fail
     go_roundg (gk - 1)
     case measure => have:=HN.out; omega
     case rel => exact ⟨1,_,rfl,hlt,Lib.hid (by have:=HN.out; omega),Lib.hid (by rw [List.length_append,HL.out]; rfl),HST2,HP⟩
    ·have d0:=bc_ x7 2
     have d1:=bc_ x7 3
     obtain ⟨o0,ho0⟩ : ∃ o0,o0 = (acc.getD 1 (0,0)).1:=⟨_,rfl⟩
     obtain ⟨o1,ho1⟩ : ∃ o1,o1 = (acc.getD 1 (0,0)).2:=⟨_,rfl⟩
     rw [← ho0] at d0
     rw [← ho1] at d1
     have f0:=zAc x7 2
     have f1:=zAc x7 3
     clear x7 ho0 ho1
     go_wp2_with fail
     go_roundg (gk - 1)
     case measure => have:=HN.out; omega
     case rel => exact ⟨2,_,rfl,hlt,Lib.hid (by have:=HN.out; omega),Lib.hid (by rw [List.length_append,HL.out]; rfl),HST2,HP⟩
   ·have hst:=HST.out
    rw [if_neg hrc] at hst
    have hrr:=HRR.out
    rw [hst] at hrr
    dsimp only at hrr
    rw [if_neg hrc] at hrr
    subst hrr
    clear hst HST HRR
    have x4:=HS3.out.x4
    have d0:=bc_ x4 0
    have d1:=bc_ x4 1
    have f0:=zAc x4 0
    have f1:=zAc x4 1
    go_wp2_with fail
    refine bodyPost_ret (zAq rfl _ _ (w.heap.size + 1) 43 #[.int .i64 (0),.int .i64 (0)] (0,0) _ rfl (blk_put (blk_put x4 0 _ rfl) 1 _ rfl) Tryz.underlying43 rfl (by kernel_rfl)) rfl ?_
    exact ⟨rfl,(HS3.out.hB.setCell (by show w.heap.size ≤ w.heap.size + 1; omega) _).setCell (by show w.heap.size ≤ w.heap.size + 1; omega) _⟩
  ·obtain rfl : j = kl.length:=by omega
   have hff:=HF.out
   rw [List.drop_length,kidsF] at hff
   have hrr:=HRR.out
   rw [hff] at hrr
   dsimp only at hrr
   rw [if_pos rfl] at hrr
   have HRV:=Lib.hid hrr
   clear hff hrr HRR HF HIH
   have hop:=HRV.out
   unfold opF at hop
   rw [HK0.out,HN0.out,HT0.out,HF0.out] at hop
   have hk8 : k = 20 ∨ k = 21 ∨ k = 22 ∨ k = 23 ∨ k = 24 ∨ k = 25 ∨ k = 26 ∨ k = 27:=by have a:=HK1.out; have b:=HK2.out; have c:=HK0.out; omega
   have HSR:=HS
   have HEW:=Lib.hid (HW.out wr HS.out.hB)
   clear HRV HL HN hj
   rcases hk8 with rfl | rfl | rfl | rfl | rfl | rfl | rfl | rfl
   ·rw [if_pos rfl] at hop
    have nd0:=bc_ HS.out.x6 0
    subst hop
    have nd1:=bc_ HS.out.x6 1
    go_wp2_with fail
    refine (zBw n wr).mono ?_
    rintro e_ W2 ⟨rfl,hb_⟩
    have HS2:=Lib.hid (HS.out.below hb_)
    clear hb_ nd0 nd1
    have d0:=bc_ HS2.out.x4 0
    have d1:=bc_ HS2.out.x4 1
    have f0:=zAc HS2.out.x4 0
    have f1:=zAc HS2.out.x4 1
    go_wp2_with fail
    refine bodyPost_ret (zAq rfl _ _ (w.heap.size + 1) 43 #[.int .i64 (1),.int .i64 (n)] (0,0) _ rfl (blk_put (blk_put HS2.out.x4 0 _ rfl) 1 _ rfl) Tryz.underlying43 rfl (by kernel_rfl)) rfl ?_
    exact ⟨rfl,(HS2.out.hB.setCell (by show w.heap.size ≤ w.heap.size + 1; omega) _).setCell (by show w.heap.size ≤ w.heap.size + 1; omega) _⟩
   ·rw [if_neg (by decide),if_pos rfl] at hop
    have nd0:=bc_ HS.out.x6 0
    subst hop
    have nd1:=bc_ HS.out.x6 1
    have d0:=bc_ HS.out.x4 0
    have d1:=bc_ HS.out.x4 1
    have f0:=zAc HS.out.x4 0
    have f1:=zAc HS.out.x4 1
    go_wp2_with fail
    refine bodyPost_ret (zAq rfl _ _ (w.heap.size + 1) 43 #[.int .i64 (2),.int .i64 (n)] (0,0) _ rfl (blk_put (blk_put HS.out.x4 0 _ rfl) 1 _ rfl) Tryz.underlying43 rfl (by kernel_rfl)) rfl ?_
    exact ⟨rfl,(HS.out.hB.setCell (by show w.heap.size ≤ w.heap.size + 1; omega) _).setCell (by show w.heap.size ≤ w.heap.size + 1; omega) _⟩
   ·rw [if_neg (by decide),if_neg (by decide),if_pos rfl] at hop
    have nd0:=bc_ HS.out.x6 0
    obtain ⟨nv,hnv⟩ : ∃ nv,nv = nameF nl tx.data.toList:=⟨_,rfl⟩
    have HX:=Lib.hid (name_is (some ad) ns.length ct root An cn nl HEW.out.hnl HEW.out.hcn Bh tx wr HEW.out.hN)
    rw [← hnv] at hop HX
    subst hop
    clear hnv
    have nd3:=bc_ HS.out.x6 3
    have ev0:=bc_ HS.out.x0 0
    have ev1:=bc_ HS.out.x0 1
    have ev2:=bc_ HS.out.x0 2
    have ev3:=bc_ HS.out.x0 3
    go_wp2_with fail
    refine HX.out.mono ?_
    rintro e_ W2 ⟨rfl,hb_⟩
    have HS2:=Lib.hid (HS.out.below hb_)
    clear hb_ nd0 nd3 ev0 ev1 ev2 ev3
    have d0:=bc_ HS2.out.x4 0
    have d1:=bc_ HS2.out.x4 1
    have f0:=zAc HS2.out.x4 0
    have f1:=zAc HS2.out.x4 1
    go_wp2_with fail
    refine bodyPost_ret (zAq rfl _ _ (w.heap.size + 1) 43 #[.int .i64 (nv.1),.int .i64 (nv.2)] (0,0) _ rfl (blk_put (blk_put HS2.out.x4 0 _ rfl) 1 _ rfl) Tryz.underlying43 rfl (by kernel_rfl)) rfl ?_
    exact ⟨rfl,(HS2.out.hB.setCell (by show w.heap.size ≤ w.heap.size + 1; omega) _).setCell (by show w.heap.size ≤ w.heap.size + 1; omega) _⟩
   ·rw [if_neg (by decide),if_neg (by decide),if_neg (by decide),if_pos rfl] at hop
    have nd0:=bc_ HS.out.x6 0
    obtain ⟨nv,hnv⟩ : ∃ nv,nv = nameF nl tx.data.toList:=⟨_,rfl⟩
    obtain ⟨v0,hv0⟩ : ∃ v0,v0 = (acc.getD 0 (0,0)).1:=⟨_,rfl⟩
    obtain ⟨v1,hv1⟩ : ∃ v1,v1 = (acc.getD 0 (0,0)).2:=⟨_,rfl⟩
    rw [← hnv,← hv0,← hv1] at hop
    have HV0:=Lib.hid hv0
    have HV1:=Lib.hid hv1
    have HX:=Lib.hid (fun (W : World) (hb : Below wr.heap.size wr W) => name_is (some ad) ns.length ct root An cn nl HEW.out.hnl HEW.out.hcn Bh tx W (Kd.C_below HEW.out.hN hb))
    rw [← hnv] at HX
    clear hnv hv0 hv1
    have HG:=Lib.hid (fun (W : World) (hb : Below wr.heap.size wr W) => hget nv.1 nv.2 v0 v1 (HEW.out.below hb).hH HEW.out.hL)
    obtain ⟨g0,hg0⟩ : ∃ g0,g0 = getK L nv.1 nv.2 v0 v1:=⟨_,rfl⟩
    obtain ⟨g1,hg1⟩ : ∃ g1,g1 = getN L nv.1 nv.2 v0 v1:=⟨_,rfl⟩
    obtain ⟨g2,hg2⟩ : ∃ g2,g2 = wrongF L nv.1 nv.2 v0 v1:=⟨_,rfl⟩
    rw [← hg0,← hg1,← hg2] at hop HG
    subst hop
    clear hg0 hg1 hg2
    go_wp2_with fail
    have sa0:=bc_ HS.out.x0 0
    have sa1:=bc_ HS.out.x0 1
    have sa2:=bc_ HS.out.x0 2
    have sa3:=bc_ HS.out.x0 3
    have sa4:=bc_ HS.out.x6 3
    have sa5 : wr.cell? ⟨w.heap.size + 1 + 1 + 1,0,none⟩ = some (.int .i64 v0):=(zAh HS.out.x7 0).trans (by rw [pairC,← HV0.out]; rfl)
    have sa6 : wr.cell? ⟨w.heap.size + 1 + 1 + 1,1,none⟩ = some (.int .i64 v1):=(zAh HS.out.x7 1).trans (by rw [pairC,← HV1.out]; rfl)
    refine start_ (n:=13) (S:=fun w' => w'.cell? ⟨w.heap.size,0,none⟩ = some (.slice (some ad) ns.length ct) ∧ w'.cell? ⟨w.heap.size,1,none⟩ = some (.int .i64 root) ∧ w'.cell? ⟨w.heap.size,2,none⟩ = some (.slice An nl.length cn) ∧ w'.cell? ⟨w.heap.size,3,none⟩ = some (.pointer (some ⟨Bh,0,none⟩)) ∧ w'.cell? ⟨w.heap.size + 1 + 1,3,none⟩ = some (.string tx) ∧ w'.cell? ⟨w.heap.size + 1 + 1 + 1,0,none⟩ = some (.int .i64 v0) ∧ w'.cell? ⟨w.heap.size + 1 + 1 + 1,1,none⟩ = some (.int .i64 v1)) (ds:=[11]) #[false,false,false,false,false,false,false,false,false,false,false,false,false] (by kernel_rfl) rfl rfl ⟨zAg sa0,zAg sa1,zAg sa2,zAg sa3,zAg sa4,zAg sa5,zAg sa6⟩ (fun hHeld => ?_)
    refine pu_ 0 65 ?_
    refine pu_ 3 68 ?_
    refine pu_ 6 71 ?_
    refine ta_ 1 66 hHeld ?_
    refine ta_ 2 67 hHeld ?_
    refine ta_ 4 69 hHeld ?_
    refine ta_ 7 72 hHeld ?_
    refine on_ 5 (some 70) (fun K hK => ?_)
    refine gs_ Tryz.func37 #[.agg #[.slice (some ad) ns.length ct,.int .i64 root,.slice An nl.length cn,.pointer (some ⟨Bh,0,none⟩)],.string tx] ?_
    with_reducible refine (HX.out _ (zAk (Below.refl _ _))).mono ?_
    rintro e_ W2 ⟨rfl,hb_⟩
    refine ⟨_,rfl,?_⟩
    have HS2:=Lib.hid (HS.out.below (zAd (zAk (Below.refl _ _)) hb_))
    have HB2:=Lib.hid (zAd (zAk (Below.refl wr.heap.size wr)) hb_)
    clear hb_
    have sb0:=bc_ HS2.out.x0 0
    have sb1:=bc_ HS2.out.x0 1
    have sb2:=bc_ HS2.out.x0 2
    have sb3:=bc_ HS2.out.x0 3
    have sb4:=bc_ HS2.out.x6 3
    have sb5 : W2.cell? ⟨w.heap.size + 1 + 1 + 1,0,none⟩ = some (.int .i64 v0):=(zAh HS2.out.x7 0).trans (by rw [pairC,← HV0.out]; rfl)
    have sb6 : W2.cell? ⟨w.heap.size + 1 + 1 + 1,1,none⟩ = some (.int .i64 v1):=(zAh HS2.out.x7 1).trans (by rw [pairC,← HV1.out]; rfl)
    refine hK.out _ _ ⟨sb0,sb1,sb2,sb3,sb4,sb5,sb6⟩ (fun hHeld => ?_)
    clear hK K
    refine no_ ?_
    refine on_ 8 (some 73) (fun K hK => ?_)
    refine gs_ Tryz.func14 #[.pointer (some ⟨Bh,0,none⟩),.agg #[.int .i64 nv.1,.int .i64 nv.2],.agg #[.int .i64 v0,.int .i64 v1]] ?_
    with_reducible refine (HG.out _ HB2.out).mono ?_
    rintro e_ W3 ⟨rfl,hb_⟩
    refine ⟨_,rfl,?_⟩
    have HS3:=Lib.hid (HS2.out.below hb_)
    clear hb_
    have sc0:=bc_ HS3.out.x0 0
    have sc1:=bc_ HS3.out.x0 1
    have sc2:=bc_ HS3.out.x0 2
    have sc3:=bc_ HS3.out.x0 3
    have sc4:=bc_ HS3.out.x6 3
    have sc5 : W3.cell? ⟨w.heap.size + 1 + 1 + 1,0,none⟩ = some (.int .i64 v0):=(zAh HS3.out.x7 0).trans (by rw [pairC,← HV0.out]; rfl)
    have sc6 : W3.cell? ⟨w.heap.size + 1 + 1 + 1,1,none⟩ = some (.int .i64 v1):=(zAh HS3.out.x7 1).trans (by rw [pairC,← HV1.out]; rfl)
    refine hK.out _ _ ⟨sc0,sc1,sc2,sc3,sc4,sc5,sc6⟩ (fun hHeld => ?_)
    clear hK K
    refine no_ ?_
    refine pu_ 9 74 ?_
    refine pu_ 10 75 ?_
    refine last_ (i:=11) (N:=none) #[true,true,true,true,true,true,true,true,true,true,true,true,false] rfl rfl (by kernel_rfl) (by decide) (fun K hK => ?_)
    have d0:=bc_ HS3.out.x4 0
    have d1:=bc_ HS3.out.x4 1
    have f0:=zAc HS3.out.x4 0
    have f1:=zAc HS3.out.x4 1
    refine skip_ (w1:=?_) (by rfl) rfl ?_ ?_
    rotate_left
    ·go_simp
     rfl
    refine hK.out _ _ ?_
    clear hK K
    refine pu_ 12 5 ?_
    refine done_ (by kernel_rfl) ?_
    go_wp2_with fail
    refine bodyPost_ret (zAq rfl _ _ (w.heap.size + 1) 43 #[.int .i64 (g0),.int .i64 (g1)] (0,0) _ rfl (blk_put (blk_put HS3.out.x4 0 _ rfl) 1 _ rfl) Tryz.underlying43 rfl (by kernel_rfl)) rfl ?_
    exact ⟨rfl,(HS3.out.hB.setCell (by show w.heap.size ≤ w.heap.size + 1; omega) _).setCell (by show w.heap.size ≤ w.heap.size + 1; omega) _⟩
   ·rw [if_neg (by decide),if_neg (by decide),if_neg (by decide),if_neg (by decide),if_pos rfl] at hop
    have nd0:=bc_ HS.out.x6 0
    obtain ⟨nv,hnv⟩ : ∃ nv,nv = nameF nl tx.data.toList:=⟨_,rfl⟩
    rw [← hnv] at hop
    have HX:=Lib.hid (fun (W : World) (hb : Below wr.heap.size wr W) => name_is (some ad) ns.length ct root An cn nl HEW.out.hnl HEW.out.hcn Bh tx W (Kd.C_below HEW.out.hN hb))
    rw [← hnv] at HX
    clear hnv
    have HG:=Lib.hid (fun (W : World) (hb : Below wr.heap.size wr W) => hlen nv.1 nv.2 (HEW.out.below hb).hH HEW.out.hL)
    obtain ⟨g0,hg0⟩ : ∃ g0,g0 = lenF L nv.1 nv.2:=⟨_,rfl⟩
    rw [← hg0] at hop HG
    subst hop
    clear hg0
    go_wp2_with fail
    have sa0:=bc_ HS.out.x0 0
    have sa1:=bc_ HS.out.x0 1
    have sa2:=bc_ HS.out.x0 2
    have sa3:=bc_ HS.out.x0 3
    have sa4:=bc_ HS.out.x6 3
    refine start_ (n:=10) (S:=fun w' => w'.cell? ⟨w.heap.size,0,none⟩ = some (.slice (some ad) ns.length ct) ∧ w'.cell? ⟨w.heap.size,1,none⟩ = some (.int .i64 root) ∧ w'.cell? ⟨w.heap.size,2,none⟩ = some (.slice An nl.length cn) ∧ w'.cell? ⟨w.heap.size,3,none⟩ = some (.pointer (some ⟨Bh,0,none⟩)) ∧ w'.cell? ⟨w.heap.size + 1 + 1,3,none⟩ = some (.string tx)) (ds:=[8]) #[false,false,false,false,false,false,false,false,false,false] (by kernel_rfl) rfl rfl ⟨zAg sa0,zAg sa1,zAg sa2,zAg sa3,zAg sa4⟩ (fun hHeld => ?_)
    refine pu_ 0 78 ?_
    refine pu_ 3 81 ?_
    refine ta_ 1 79 hHeld ?_
    refine ta_ 2 80 hHeld ?_
    refine ta_ 4 82 hHeld ?_
    refine on_ 5 (some 83) (fun K hK => ?_)
    refine gs_ Tryz.func37 #[.agg #[.slice (some ad) ns.length ct,.int .i64 root,.slice An nl.length cn,.pointer (some ⟨Bh,0,none⟩)],.string tx] ?_
    with_reducible refine (HX.out _ (zAk (Below.refl _ _))).mono ?_
    rintro e_ W2 ⟨rfl,hb_⟩
    refine ⟨_,rfl,?_⟩
    have HS2:=Lib.hid (HS.out.below (zAd (zAk (Below.refl _ _)) hb_))
    have HB2:=Lib.hid (zAd (zAk (Below.refl wr.heap.size wr)) hb_)
    clear hb_
    have sb0:=bc_ HS2.out.x0 0
    have sb1:=bc_ HS2.out.x0 1
    have sb2:=bc_ HS2.out.x0 2
    have sb3:=bc_ HS2.out.x0 3
    have sb4:=bc_ HS2.out.x6 3
    refine hK.out _ _ ⟨sb0,sb1,sb2,sb3,sb4⟩ (fun hHeld => ?_)
    clear hK K
    refine no_ ?_
    refine on_ 6 (some 84) (fun K hK => ?_)
    refine gs_ Tryz.func38 #[.pointer (some ⟨Bh,0,none⟩),.agg #[.int .i64 nv.1,.int .i64 nv.2]] ?_
    with_reducible refine (HG.out _ HB2.out).mono ?_
    rintro e_ W3 ⟨rfl,hb_⟩
    refine ⟨_,rfl,?_⟩
    have HS3:=Lib.hid (HS2.out.below hb_)
    clear hb_
    have sc0:=bc_ HS3.out.x0 0
    have sc1:=bc_ HS3.out.x0 1
    have sc2:=bc_ HS3.out.x0 2
    have sc3:=bc_ HS3.out.x0 3
    have sc4:=bc_ HS3.out.x6 3
    refine hK.out _ _ ⟨sc0,sc1,sc2,sc3,sc4⟩ (fun hHeld => ?_)
    clear hK K
    refine no_ ?_
    refine on_ 7 (some 85) (fun K hK => ?_)
    refine gs_ Tryz.func29 #[.int .i64 g0] ?_
    with_reducible refine (zBw g0 _).mono ?_
    rintro e_ W4 ⟨rfl,hb_⟩
    refine ⟨_,rfl,?_⟩
    have HS4:=Lib.hid (HS3.out.below hb_)
    clear hb_
    have sd0:=bc_ HS4.out.x0 0
    have sd1:=bc_ HS4.out.x0 1
    have sd2:=bc_ HS4.out.x0 2
    have sd3:=bc_ HS4.out.x0 3
    have sd4:=bc_ HS4.out.x6 3
    refine hK.out _ _ ⟨sd0,sd1,sd2,sd3,sd4⟩ (fun hHeld => ?_)
    clear hK K
    refine no_ ?_
    refine last_ (i:=8) (N:=none) #[true,true,true,true,true,true,true,true,true,false] rfl rfl (by kernel_rfl) (by decide) (fun K hK => ?_)
    have d0:=bc_ HS4.out.x4 0
    have d1:=bc_ HS4.out.x4 1
    have f0:=zAc HS4.out.x4 0
    have f1:=zAc HS4.out.x4 1
    refine skip_ (w1:=?_) (by rfl) rfl ?_ ?_
    rotate_left
    ·go_simp
     rfl
    refine hK.out _ _ ?_
    clear hK K
    refine pu_ 9 5 ?_
    refine done_ (by kernel_rfl) ?_
    go_wp2_with fail
    refine bodyPost_ret (zAq rfl _ _ (w.heap.size + 1) 43 #[.int .i64 (1),.int .i64 (g0)] (0,0) _ rfl (blk_put (blk_put HS4.out.x4 0 _ rfl) 1 _ rfl) Tryz.underlying43 rfl (by kernel_rfl)) rfl ?_
    exact ⟨rfl,(HS4.out.hB.setCell (by show w.heap.size ≤ w.heap.size + 1; omega) _).setCell (by show w.heap.size ≤ w.heap.size + 1; omega) _⟩
   ·rw [if_neg (by decide),if_neg (by decide),if_neg (by decide),if_neg (by decide),if_neg (by decide),if_pos rfl] at hop
    have nd0:=bc_ HS.out.x6 0
    have HX:=Lib.hid (Procedure_is (some ad) ct ns root ol HR.out HRB.out tx HSZ.out wr HEW.out.hC HEW.out.hct HEW.out.hE)
    have hpr:=zBd ns tx.data.toList
    have hnn:=HR.out.fit.1
    obtain ⟨pp,hpp⟩ : ∃ pp,pp = procF ns tx.data.toList:=⟨_,rfl⟩
    rw [← hpp] at hop HX hpr
    have hp0 : -1 ≤ pp:=by omega
    have hp1 : pp ≤ 4000:=by omega
    subst hop
    clear hpp hpr
    have nd3:=bc_ HS.out.x6 3
    have ev0:=bc_ HS.out.x0 0
    have ev1:=bc_ HS.out.x0 1
    have ev2:=bc_ HS.out.x0 2
    have ev3:=bc_ HS.out.x0 3
    go_wp2_with fail
    refine HX.out.mono ?_
    rintro e_ W2 ⟨rfl,hb_⟩
    have HS2:=Lib.hid (HS.out.below hb_)
    clear hb_ nd0 nd3 ev0 ev1 ev2 ev3
    have d0:=bc_ HS2.out.x4 0
    have d1:=bc_ HS2.out.x4 1
    have f0:=zAc HS2.out.x4 0
    have f1:=zAc HS2.out.x4 1
    go_wp2_with fail
    refine bodyPost_ret (zAq rfl _ _ (w.heap.size + 1) 43 #[.int .i64 (4),.int .i64 (pp + 1)] (0,0) _ rfl (blk_put (blk_put HS2.out.x4 0 _ rfl) 1 _ rfl) Tryz.underlying43 rfl (by kernel_rfl)) rfl ?_
    exact ⟨rfl,(HS2.out.hB.setCell (by show w.heap.size ≤ w.heap.size + 1; omega) _).setCell (by show w.heap.size ≤ w.heap.size + 1; omega) _⟩
   ·rw [if_neg (by decide),if_neg (by decide),if_neg (by decide),if_neg (by decide),if_neg (by decide),if_neg (by decide),if_pos rfl] at hop
    have nd0:=bc_ HS.out.x6 0
    obtain ⟨v0,hv0⟩ : ∃ v0,v0 = (acc.getD 0 (0,0)).1:=⟨_,rfl⟩
    obtain ⟨v1,hv1⟩ : ∃ v1,v1 = (acc.getD 0 (0,0)).2:=⟨_,rfl⟩
    rw [← hv0,← hv1] at hop
    obtain ⟨u,hu⟩ : ∃ u,u = unF tx v0 v1:=⟨_,rfl⟩
    rw [← hu] at hop
    obtain ⟨u1,u2,u3⟩:=u
    have HUN:=Lib.hid hu
    have HV0:=Lib.hid hv0
    have HV1:=Lib.hid hv1
    have HOP:=Lib.hid hop
    obtain ⟨te,hte⟩ : ∃ te,te = exprF ns ol q:=⟨_,rfl⟩
    have HTY:=Lib.hid (fun (W : World) (hb : Below wr.heap.size wr W) => Type_is (some ad) ct ns root ol HR.out HRB.out q h0 h1 W (HEW.out.below hb).hC HEW.out.hct (HEW.out.below hb).hE)
    rw [← hte] at hop HTY
    have HOPT:=Lib.hid hop
    dsimp only at HOPT
    clear hu hop hte HOP hv0 hv1
    have nd3:=bc_ HS.out.x6 3
    have ar0 : wr.cell? ⟨w.heap.size + 1 + 1 + 1,0,none⟩ = some (.int .i64 v0):=(zAh HS.out.x7 0).trans (by rw [pairC,← HV0.out]; rfl)
    have ar1 : wr.cell? ⟨w.heap.size + 1 + 1 + 1,1,none⟩ = some (.int .i64 v1):=(zAh HS.out.x7 1).trans (by rw [pairC,← HV1.out]; rfl)
    go_wp2_with fail
    refine (un_is tx v0 v1 u1 u2 u3 HUN.out wr).mono ?_
    rintro e_ W2 ⟨rfl,hb_⟩
    have HS2:=Lib.hid (HS.out.below hb_)
    have HB2:=Lib.hid hb_
    clear hb_ nd0 nd3 ar0 ar1
    have HS3:=Lib.hid (HS2.out.below (zAa (Below.refl W2.heap.size W2) (.cells #[.int .i64 u1,.int .i64 u2] 43)))
    have HB3:=Lib.hid (zAd HB2.out (zAa (Below.refl W2.heap.size W2) (.cells #[.int .i64 u1,.int .i64 u2] 43)))
    cases u3 with
    | true =>
     have hop:=HOPT.out
     rw [if_pos rfl] at hop
     subst hop
     clear HOPT
     have d0:=bc_ HS3.out.x4 0
     have d1:=bc_ HS3.out.x4 1
     have f0:=zAc HS3.out.x4 0
     have f1:=zAc HS3.out.x4 1
     go_wp2_with fail
     refine bodyPost_ret (zAq rfl _ _ (w.heap.size + 1) 43 #[.int .i64 (u1),.int .i64 (u2)] (0,0) _ rfl (blk_put (blk_put HS3.out.x4 0 _ rfl) 1 _ rfl) Tryz.underlying43 rfl (by kernel_rfl)) rfl ?_
     exact ⟨rfl,(HS3.out.hB.setCell (by show w.heap.size ≤ w.heap.size + 1; omega) _).setCell (by show w.heap.size ≤ w.heap.size + 1; omega) _⟩
    | false =>
     have hop:=HOPT.out
     rw [if_neg (by decide)] at hop
     subst hop
     clear HOPT
     have ev0:=bc_ HS3.out.x0 0
     have ev1:=bc_ HS3.out.x0 1
     have ev2:=bc_ HS3.out.x0 2
     have ev3:=bc_ HS3.out.x0 3
     go_wp2_with fail
     refine (HTY.out _ HB3.out).mono ?_
     rintro e_ W4 ⟨rfl,hb_⟩
     have HS4:=Lib.hid (HS3.out.below hb_)
     clear hb_ ev0 ev1 ev2 ev3
     go_wp2_with fail
     refine (zBQ.calls te te 0 W4 rfl).mono ?_
     rintro e_ W5 ⟨rfl,hb_⟩
     have HS5:=Lib.hid (HS4.out.below hb_)
     clear hb_
     have d0:=bc_ HS5.out.x4 0
     have d1:=bc_ HS5.out.x4 1
     have f0:=zAc HS5.out.x4 0
     have f1:=zAc HS5.out.x4 1
     go_wp2_with fail
     refine bodyPost_ret (zAq rfl _ _ (w.heap.size + 1) 43 #[.int .i64 (te),.int .i64 (0)] (0,0) _ rfl (blk_put (blk_put HS5.out.x4 0 _ rfl) 1 _ rfl) Tryz.underlying43 rfl (by kernel_rfl)) rfl ?_
     exact ⟨rfl,(HS5.out.hB.setCell (by show w.heap.size ≤ w.heap.size + 1; omega) _).setCell (by show w.heap.size ≤ w.heap.size + 1; omega) _⟩
   ·rw [if_neg (by decide),if_neg (by decide),if_neg (by decide),if_neg (by decide),if_neg (by decide),if_neg (by decide),if_neg (by decide)] at hop
    have nd0:=bc_ HS.out.x6 0
    obtain ⟨v0,hv0⟩ : ∃ v0,v0 = (acc.getD 0 (0,0)).1:=⟨_,rfl⟩
    obtain ⟨v1,hv1⟩ : ∃ v1,v1 = (acc.getD 0 (0,0)).2:=⟨_,rfl⟩
    obtain ⟨v2,hv2⟩ : ∃ v2,v2 = (acc.getD 1 (0,0)).1:=⟨_,rfl⟩
    obtain ⟨v3,hv3⟩ : ∃ v3,v3 = (acc.getD 1 (0,0)).2:=⟨_,rfl⟩
    rw [← hv0,← hv1,← hv2,← hv3] at hop
    obtain ⟨u,hu⟩ : ∃ u,u = binF tx v0 v1 v2 v3:=⟨_,rfl⟩
    rw [← hu] at hop
    obtain ⟨u1,u2,u4,u3⟩:=u
    have HUN:=Lib.hid hu
    have HV0:=Lib.hid hv0
    have HV1:=Lib.hid hv1
    have HV2:=Lib.hid hv2
    have HV3:=Lib.hid hv3
    have HOP:=Lib.hid hop
    obtain ⟨te,hte⟩ : ∃ te,te = exprF ns ol q:=⟨_,rfl⟩
    have HTY:=Lib.hid (fun (W : World) (hb : Below wr.heap.size wr W) => Type_is (some ad) ct ns root ol HR.out HRB.out q h0 h1 W (HEW.out.below hb).hC HEW.out.hct (HEW.out.below hb).hE)
    rw [← hte] at hop HTY
    have HOPT:=Lib.hid hop
    dsimp only at HOPT
    clear hu hop hte HOP hv0 hv1 hv2 hv3
    have nd3:=bc_ HS.out.x6 3
    have ar0 : wr.cell? ⟨w.heap.size + 1 + 1 + 1,0,none⟩ = some (.int .i64 v0):=(zAh HS.out.x7 0).trans (by rw [pairC,← HV0.out]; rfl)
    have ar1 : wr.cell? ⟨w.heap.size + 1 + 1 + 1,1,none⟩ = some (.int .i64 v1):=(zAh HS.out.x7 1).trans (by rw [pairC,← HV1.out]; rfl)
    have ar2 : wr.cell? ⟨w.heap.size + 1 + 1 + 1,2,none⟩ = some (.int .i64 v2):=(zAh HS.out.x7 2).trans (by rw [pairC,← HV2.out]; rfl)
    have ar3 : wr.cell? ⟨w.heap.size + 1 + 1 + 1,3,none⟩ = some (.int .i64 v3):=(zAh HS.out.x7 3).trans (by rw [pairC,← HV3.out]; rfl)
    go_wp2_with fail
    refine (bin_is tx v0 v1 v2 v3 u1 u2 u4 u3 HUN.out wr).mono ?_
    rintro e_ W2 ⟨rfl,hb_⟩
    have HS2:=Lib.hid (HS.out.below hb_)
    have HB2:=Lib.hid hb_
    clear hb_ nd0 nd3 ar0 ar1 ar2 ar3
    have HS3:=Lib.hid (HS2.out.below (zAa (Below.refl W2.heap.size W2) (.cells #[.int .i64 u1,.int .i64 u2] 43)))
    have HB3:=Lib.hid (zAd HB2.out (zAa (Below.refl W2.heap.size W2) (.cells #[.int .i64 u1,.int .i64 u2] 43)))
    cases u3 with
    | true =>
     have hop:=HOPT.out
     rw [if_pos rfl] at hop
     subst hop
     clear HOPT
     have d0:=bc_ HS3.out.x4 0
     have d1:=bc_ HS3.out.x4 1
     have f0:=zAc HS3.out.x4 0
     have f1:=zAc HS3.out.x4 1
     go_wp2_with fail
     refine bodyPost_ret (zAq rfl _ _ (w.heap.size + 1) 43 #[.int .i64 (u1),.int .i64 (u2)] (0,0) _ rfl (blk_put (blk_put HS3.out.x4 0 _ rfl) 1 _ rfl) Tryz.underlying43 rfl (by kernel_rfl)) rfl ?_
     exact ⟨rfl,(HS3.out.hB.setCell (by show w.heap.size ≤ w.heap.size + 1; omega) _).setCell (by show w.heap.size ≤ w.heap.size + 1; omega) _⟩
    | false =>
     have hop:=HOPT.out
     rw [if_neg (by decide)] at hop
     subst hop
     clear HOPT
     have ev0:=bc_ HS3.out.x0 0
     have ev1:=bc_ HS3.out.x0 1
     have ev2:=bc_ HS3.out.x0 2
     have ev3:=bc_ HS3.out.x0 3
     go_wp2_with fail
     refine (HTY.out _ HB3.out).mono ?_
     rintro e_ W4 ⟨rfl,hb_⟩
     have HS4:=Lib.hid (HS3.out.below hb_)
     clear hb_ ev0 ev1 ev2 ev3
     go_wp2_with fail
     refine (zBQ.calls te te 0 W4 rfl).mono ?_
     rintro e_ W5 ⟨rfl,hb_⟩
     have HS5:=Lib.hid (HS4.out.below hb_)
     clear hb_
     have d0:=bc_ HS5.out.x4 0
     have d1:=bc_ HS5.out.x4 1
     have f0:=zAc HS5.out.x4 0
     have f1:=zAc HS5.out.x4 1
     go_wp2_with fail
     refine bodyPost_ret (zAq rfl _ _ (w.heap.size + 1) 43 #[.int .i64 (te),.int .i64 (0)] (0,0) _ rfl (blk_put (blk_put HS5.out.x4 0 _ rfl) 1 _ rfl) Tryz.underlying43 rfl (by kernel_rfl)) rfl ?_
     exact ⟨rfl,(HS5.out.hB.setCell (by show w.heap.size ≤ w.heap.size + 1; omega) _).setCell (by show w.heap.size ≤ w.heap.size + 1; omega) _⟩
end Go.Proofs.YtkhlfdcjgooogaaGreat.P
