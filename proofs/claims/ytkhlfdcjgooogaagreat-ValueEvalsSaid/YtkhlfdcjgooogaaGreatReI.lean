import Derived.Test.YtkhlfdcjgooogaaGreatWMore
import Derived.Test.YtkhlfdcjgooogaaGreatPf118
import Derived.Test.YtkhlfdcjgooogaaGreatTyF
import Derived.Test.YtkhlfdcjgooogaaGreatTyP
set_option maxRecDepth 100000
set_option maxHeartbeats 16000000
set_option linter.unusedVariables false
set_option linter.unusedSimpArgs false
set_option linter.unusedSectionVars false
namespace Go.Proofs.YtkhlfdcjgooogaaGreat.P
open Go.RowKit Go.Proofs.YtkhlfdcjgooogaaGreatW.PrintWords Go.Proofs.YtkhlfdcjgooogaaGreatW.PrintLast Go.Proofs.YtkhlfdcjgooogaaGreatW.PrintMore
def amongB (l : List ByteArray) (s : ByteArray) : Bool:=l.any (fun x => decide (x.data.toList = s.data.toList))
theorem among_l (l : List ByteArray) (s : ByteArray) (hl : l.length ≤ 1000) : ∀ (d i : Nat),i + d = l.length → zAD.l0 (d + 1) l s (i : Int) = some ((l.drop i).any (fun x => decide (x.data.toList = s.data.toList)))
 | 0,i,hd => by
  have hi : i = l.length:=by omega
  subst hi
  rw [zAD.l0,if_neg (by omega),List.drop_length]
  rfl
 | d + 1,i,hd => by
  have hi : i < l.length:=by omega
  have hw : wrap64 ((i : Int) + 1) = ((i + 1 : Nat) : Int):=by unfold wrap64; omega
  have hr : rdOf ByteArray.empty l (i : Int) = l[i]:=by simp [rdOf,hi]
  rw [zAD.l0,if_pos (by omega),if_pos (by omega),hr,hw,among_l l s hl d (i + 1) (by omega),List.drop_eq_getElem_cons hi,List.any_cons,zAI,zAI]
  by_cases h : l[i].data.toList = s.data.toList
  ·rw [if_pos h,decide_eq_true h]; rfl
  ·rw [if_neg h,decide_eq_false h]; rfl
theorem among_is (A : Option Addr) (c : Nat) (l : List ByteArray) (s : ByteArray) (hl : l.length ≤ 1000) (w : World) (hC : Kd.C Kd.string w A l.length l) (hc : l.length ≤ c) :
  Calls Tryz.prog 118 #[.slice A l.length c,.string s] w fun e w' => e = .returned (.bool (amongB l s)) ∧ Below w.heap.size w w' :=
 (zAD.calls (l.length + 1) A c l s (amongB l s) w hC hc (by
  have:=among_l l s hl l.length 0 (by omega)
  rw [List.drop_zero] at this
  exact this)).mono (fun _ _ ⟨h1,h2⟩ => ⟨h1,h2.below⟩)
theorem C_strs (w : World) (g : Nat) (l : List ByteArray) (h : w.heap[g]? = some (.cells (l.map Value.string).toArray 9 (0,0))) (hl : l.length ≤ 1000) : Kd.C Kd.string w (some ⟨g,0,none⟩) l.length l:=by
 refine ⟨rfl,by omega,fun _ => ⟨⟨g,0,none⟩,rfl,fun j p hj => ⟨[.string p],rfl,rfl,fun i u hu => ?_⟩⟩⟩
 obtain ⟨hjl,hp⟩:=List.getElem?_eq_some_iff.1 hj
 have hi : i = 0:=by
  have:=(List.getElem?_eq_some_iff.1 hu).1
  simp at this
  exact this
 subst hi
 have hu' : Value.string p = u:=by simpa using hu
 have e : (⟨g,0,none⟩ : Addr).add (j * Kd.string.sz + 0) = ⟨g,j,none⟩:=by
  show (⟨g,0,none⟩ : Addr).add (j * 1 + 0) = _
  simp [Addr.add]
  exact fun h => h.symm
 rw [e,zAh h j,← hu',← hp]
 simp [hjl]
theorem among_arith (tx : ByteArray) : amongB [⟨#[43]⟩,⟨#[45]⟩,⟨#[42]⟩,⟨#[47]⟩,⟨#[37]⟩] tx = arithB tx.data.toList:=by
 obtain ⟨l,hl⟩ : ∃ l,l = tx.data.toList:=⟨_,rfl⟩
 unfold amongB arithB
 rw [← hl]
 have key : ∀ c : List UInt8,decide (c = l) = (l == c):=fun c => by
  by_cases h : c = l
  ·subst h; simp
  ·rw [decide_eq_false h]; exact (beq_eq_false_iff_ne.2 (fun e => h e.symm)).symm
 simp only [List.any_cons,List.any_nil,Bool.or_false]
 rw [key,key,key,key,key]
 simp only [Bool.or_assoc]
theorem zCx {At : Option Addr} {ct : Nat} {ns : List S66} {root q : Int} {w : World} (hC : Kd.C k66 w At ns.length ns) (h0 : 0 ≤ q) (h1 : q < ns.length) :
  ∃ ad A4 c4 k n at_ tx kl W1,At = some ad ∧ rd_T66 ns q = ⟨k,n,at_,tx,kl⟩ ∧ (w.alloc (.cells #[.slice (some ad) ns.length ct,.int .i64 root] 24)).cell? ⟨w.heap.size,0,none⟩ = some (.slice (some ad) ns.length ct) ∧
   (w.alloc (.cells #[.slice (some ad) ns.length ct,.int .i64 root] 24)).cell? (ad.add (q.toNat * 5)) = some (.int .i64 k) ∧
   (w.alloc (.cells #[.slice (some ad) ns.length ct,.int .i64 root] 24)).cell? ⟨(ad.add (q.toNat * 5)).block,(ad.add (q.toNat * 5)).off + 1,none⟩ = some (.int .i64 n) ∧
   (w.alloc (.cells #[.slice (some ad) ns.length ct,.int .i64 root] 24)).cell? ⟨(ad.add (q.toNat * 5)).block,(ad.add (q.toNat * 5)).off + 2,none⟩ = some (.int .i64 at_) ∧
   (w.alloc (.cells #[.slice (some ad) ns.length ct,.int .i64 root] 24)).cell? ⟨(ad.add (q.toNat * 5)).block,(ad.add (q.toNat * 5)).off + 3,none⟩ = some (.string tx) ∧
   (w.alloc (.cells #[.slice (some ad) ns.length ct,.int .i64 root] 24)).cell? ⟨(ad.add (q.toNat * 5)).block,(ad.add (q.toNat * 5)).off + 4,none⟩ = some (.slice A4 kl.length c4) ∧
   W1 = (w.alloc (.cells #[.slice (some ad) ns.length ct,.int .i64 root] 24)).alloc (.cells #[.int .i64 k,.int .i64 n,.int .i64 at_,.string tx,.slice A4 kl.length c4] 66) ∧ Below w.heap.size w W1 ∧
   W1.heap[w.heap.size]? = some (.cells #[.slice (some ad) ns.length ct,.int .i64 root] 24 (0,0)) ∧ W1.heap[w.heap.size + 1]? = some (.cells #[.int .i64 k,.int .i64 n,.int .i64 at_,.string tx,.slice A4 kl.length c4] 66 (0,0)) ∧
   Kd.C (Kd.int .i64) w A4 kl.length kl ∧ kl.length ≤ c4:=by
 obtain ⟨ad,A4,c4,eA,z0,z1,z2,z3,z4,l4,g4⟩:=at_T66 hC q h0 h1
 obtain ⟨x,hxx⟩ : ∃ x,x = rd_T66 ns q:=⟨_,rfl⟩
 rw [← hxx] at z0 z1 z2 z3 z4 l4 g4
 obtain ⟨k,n,at_,tx,kl⟩:=x
 have B0:=zAa (Below.refl w.heap.size w) (.cells #[.slice (some ad) ns.length ct,.int .i64 root] 24)
 have e : (w.alloc (.cells #[.slice (some ad) ns.length ct,.int .i64 root] 24)).heap.size = w.heap.size + 1:=by simp
 exact ⟨ad,A4,c4,k,n,at_,tx,kl,_,eA,hxx.symm,(zAh (blk_new w _) 0).trans rfl,zAb B0 z0,zAb B0 z1,zAb B0 z2,zAb B0 z3,zAb B0 z4,rfl,zAa B0 _,zAj (blk_new w _) _,by rw [← e]; exact heap_alloc_new _ _,g4,l4⟩
theorem zCE (At : Option Addr) (ct : Nat) (ns : List S66) (root : Int) (ol ps : List Int) (q : Int) (h0 : 0 ≤ q) (h1 : q < ns.length) (w : World) (hW : RW At ct ns root ol ps w) :
  Calls Tryz.prog 87 #[.agg #[.slice At ns.length ct,.int .i64 root],.int .i64 q] w fun e w' => e = .returned (.int .i64 (exprF ns ol q)) ∧ Below w.heap.size w w':=by
 obtain ⟨ad,A4,c4,k,n,at_,tx,kl,W1,rfl,hx0,cb,z0,z1,z2,z3,z4,hW1,hb1,x1,n1,hCk,hkl⟩:=zCx (ct:=ct) (root:=root) hW.hC h0 h1
 have HKD:=Lib.hid (fun (W : World) (hb : Below w.heap.size w W) => zDr (some ad) ct ns root ol ps q h0 h1 tx W (hW.below hb))
 have hx : exprF ns ol q = if (rd_T66 ns q).f0 = 20 ∨ (rd_T66 ns q).f0 = 23 ∨ (rd_T66 ns q).f0 = 24 then 1 else if (rd_T66 ns q).f0 = 21 then 2 else if (rd_T66 ns q).f0 = 25 then 4 else if (rd_T66 ns q).f0 = 22 then kindF ns ol q (rd_T66 ns q).f3.data.toList else if (rd_T66 ns q).f0 = 26 ∨ (rd_T66 ns q).f0 = 27 then (if arithB (rd_T66 ns q).f3.data.toList = true then 1 else 2) else 0:=rfl
 obtain ⟨r,hr⟩ : ∃ r,r = exprF ns ol q:=⟨_,rfl⟩
 rw [← hr,hx0] at hx
 rw [← hr]
 dsimp only at hx
 obtain ⟨kk,hkk⟩ : ∃ kk,kk = kindF ns ol q tx.data.toList:=⟨_,rfl⟩
 rw [← hkk] at hx HKD
 have HX:=Lib.hid hx
 have HB1:=Lib.hid hb1
 have X1:=Lib.hid x1
 have N1:=Lib.hid n1
 have HW1:=Lib.hid hW1
 have e0:=eq_true h0
 have e1:=eq_true h1
 clear hW hx hr hx0 hkk hb1 x1 n1 hW1 hCk
 have hk : (k = 20 ∨ k = 23 ∨ k = 24 ∨ k = 21 ∨ k = 25 ∨ (¬ k = 20 ∧ ¬ k = 23 ∧ ¬ k = 24 ∧ ¬ k = 21 ∧ ¬ k = 25 ∧ ¬ k = 22 ∧ ¬ k = 26 ∧ ¬ k = 27)) ∨ k = 22 ∨ k = 26 ∨ k = 27:=by omega
 rcases hk with hk | rfl | hk
 ·rcases hk with rfl | rfl | rfl | rfl | rfl | ⟨k1,k2,k3,k4,k5,k6,k7,k8⟩ <;> (
   have h:=HX.out
   (first | rw [if_pos (by decide)] at h | rw [if_neg (by decide),if_pos (by decide)] at h | rw [if_neg (by decide),if_neg (by decide),if_pos (by decide)] at h | rw [if_neg (by omega),if_neg k4,if_neg k5,if_neg k6,if_neg (by omega)] at h)
   have HV:=Lib.hid h
   clear h HX
   go_enter Tryz.func87,Tryz.ntmps87
   go_wp2_with fail
   go_ret
   exact ⟨by rw [HV.out]; rfl,by rw [← HW1.out]; exact HB1.out⟩)
 ·have h:=HX.out
  rw [if_neg (by decide),if_neg (by decide),if_neg (by decide),if_pos rfl] at h
  subst h
  clear HX
  have c10:=bc_ X1.out 0
  have c11:=bc_ X1.out 1
  have n13:=bc_ N1.out 3
  rw [HW1.out] at c10 c11 n13
  go_enter Tryz.func87,Tryz.ntmps87
  go_wp2_with fail
  rw [← HW1.out]
  refine (HKD.out W1 HB1.out).mono ?_
  rintro e_ W2 ⟨rfl,hb_⟩
  have HB2:=Lib.hid (zAd HB1.out hb_)
  clear hb_ c10 c11 n13
  go_wp2_with fail
  go_ret
  exact ⟨rfl,HB2.out⟩
 ·have h : r = if arithB tx.data.toList = true then 1 else 2:=by
   have h:=HX.out
   rcases hk with rfl | rfl <;> (rw [if_neg (by decide),if_neg (by decide),if_neg (by decide),if_neg (by decide),if_pos (by decide)] at h; exact h)
  have HV:=Lib.hid h
  clear h HX
  have n13:=bc_ N1.out 3
  have B2:=zAa HB1.out (.cells #[.string ⟨#[43]⟩,.string ⟨#[45]⟩,.string ⟨#[42]⟩,.string ⟨#[47]⟩,.string ⟨#[37]⟩] 9)
  have n14:=zAb (zAa (Below.refl W1.heap.size W1) (.cells #[.string ⟨#[43]⟩,.string ⟨#[45]⟩,.string ⟨#[42]⟩,.string ⟨#[47]⟩,.string ⟨#[37]⟩] 9)) n13
  have HAM:=Lib.hid (among_is (some ⟨W1.heap.size,0,none⟩) 5 [⟨#[43]⟩,⟨#[45]⟩,⟨#[42]⟩,⟨#[47]⟩,⟨#[37]⟩] tx (by decide) (W1.alloc (.cells #[.string ⟨#[43]⟩,.string ⟨#[45]⟩,.string ⟨#[42]⟩,.string ⟨#[47]⟩,.string ⟨#[37]⟩] 9)) (C_strs _ _ _ (heap_alloc_new W1 _) (by decide)) (by decide))
  have hz : W1.heap.size = w.heap.size + 1 + 1:=by rw [HW1.out]; simp
  rw [among_arith,hz] at HAM
  obtain ⟨W2,hW2⟩ : ∃ W2,W2 = W1.alloc (.cells #[.string ⟨#[43]⟩,.string ⟨#[45]⟩,.string ⟨#[42]⟩,.string ⟨#[47]⟩,.string ⟨#[37]⟩] 9):=⟨_,rfl⟩
  rw [← hW2] at B2 HAM n14
  rw [hW2,HW1.out] at n14
  rw [HW1.out] at hW2
  have HB2:=Lib.hid B2
  have HW2:=Lib.hid hW2
  obtain ⟨bb,hbb⟩ : ∃ bb,bb = arithB tx.data.toList:=⟨_,rfl⟩
  rw [← hbb] at HV HAM
  clear hbb hW2 B2 n13 hz
  rcases hk with rfl | rfl <;> (
   go_enter Tryz.func87,Tryz.ntmps87
   go_wp2_with fail
   rw [← HW2.out]
   refine HAM.out.mono ?_
   rintro e_ W3 ⟨rfl,hb_⟩
   have HB3:=Lib.hid (zAd HB2.out hb_)
   clear hb_ n14
   cases bb <;> (
    go_wp2_with fail
    go_ret
    exact ⟨by rw [HV.out]; rfl,HB3.out⟩))
theorem rall_is (At : Option Addr) (ct : Nat) (ns : List S66) (root : Int) (ol ps : List Int) (Ak : Option Addr) (ck : Nat) (kl : List Int) (hk : ∀ k ∈ kl,0 ≤ k ∧ k < ns.length) (hl : kl.length ≤ 4000) (kind : Int) (w : World) (hW : RW At ct ns root ol ps w) (hCk : Kd.C (Kd.int .i64) w Ak kl.length kl) (hck : kl.length ≤ ck) :
  Calls Tryz.prog 116 #[.agg #[.slice At ns.length ct,.int .i64 root],.slice Ak kl.length ck,.int .i64 kind] w fun e w' => e = .returned (.bool (allF ns ol kind kl)) ∧ Below w.heap.size w w':=by
 obtain ⟨W0,hW0⟩ : ∃ W0,W0 = w.alloc (.cells #[.slice At ns.length ct,.int .i64 root] 24):=⟨_,rfl⟩
 have HB0:=Lib.hid (box_ref At ct ns root w W0 hW0).1
 have X0:=Lib.hid (box_ref At ct ns root w W0 hW0).2
 have HW0:=Lib.hid hW0
 have HW:=Lib.hid hW
 have HK:=Lib.hid hk
 have HCK:=Lib.hid hCk
 clear hW0 hW hk hCk
 go_enter Tryz.func116,Tryz.ntmps116
 go_wp2_with fail
 rw [← HW0.out]
 go_loopg [7] (kl.length + 1) (fun kq v7 W => ∃ i : Nat,v7 = .int .i64 i ∧ i ≤ kl.length ∧ Hid (i + kq = kl.length + 1) ∧ Hid (allF ns ol kind kl = allF ns ol kind (kl.drop i)) ∧ Hid (Below w.heap.size w W) ∧ Hid (W.heap[w.heap.size]? = some (.cells #[.slice At ns.length ct,.int .i64 root] 24 (0,0))))
 case atStart => exact ⟨0,rfl,Nat.zero_le _,Lib.hid (by omega),Lib.hid (by rw [List.drop_zero]),HB0,X0⟩
 case round =>
  obtain ⟨i,rfl,hi,HN,HO,HB,X⟩:=hrel
  by_cases hlt : i < kl.length
  ·obtain ⟨adK,eK,y0⟩:=Kd.at_int (Kd.C_below HCK.out HB.out) (i : Int) (by omega) (by omega)
   have hq : rd kl (i : Int) = kl[i]:=by simp [rd,hlt]
   rw [hq,Int.toNat_natCast] at y0
   have hin:=HK.out kl[i] (List.getElem_mem hlt)
   have hst : allF ns ol kind (kl.drop i) = (exprF ns ol kl[i] == kind && allF ns ol kind (kl.drop (i + 1))):=by rw [List.drop_eq_getElem_cons hlt]; rfl
   obtain ⟨kv,hkv⟩ : ∃ kv,kv = kl[i]:=⟨_,rfl⟩
   rw [← hkv] at y0 hin hst
   have c0:=bc_ X.out 0
   have c1:=bc_ X.out 1
   have HTY:=Lib.hid (zCE At ct ns root ol ps kv hin.1 hin.2 wr.drew (HW.out.below (zAk HB.out)))
   obtain ⟨t,ht⟩ : ∃ t,t = exprF ns ol kv:=⟨_,rfl⟩
   rw [← ht] at HTY hst
   have HST:=Lib.hid (HO.out.trans hst)
   clear hq hkv hin hst ht HO
   cases eK
   go_wp2_with fail
   refine start_ (n:=8) (S:=fun w' => w'.cell? ⟨w.heap.size,0,none⟩ = some (.slice At ns.length ct) ∧ w'.cell? ⟨w.heap.size,1,none⟩ = some (.int .i64 root) ∧ w'.cell? (adK.add i) = some (.int .i64 kv)) (ds:=[]) #[false,false,false,false,false,false,false,false] (by kernel_rfl) rfl rfl ⟨zAg c0,zAg c1,zAg y0⟩ (fun hHeld => ?_)
   refine pu_ 1 15 ?_
   refine pu_ 2 16 ?_
   refine pu_ 3 17 ?_
   refine pu_ 6 20 ?_
   refine ta_ 0 14 hHeld ?_
   refine ta_ 4 18 hHeld ?_
   refine on_ 5 (some 19) (fun K hK => ?_)
   refine gs_ Tryz.func87 #[.agg #[.slice At ns.length ct,.int .i64 root],.int .i64 kv] ?_
   with_reducible refine HTY.out.mono ?_
   rintro e_ w6 ⟨rfl,hb_⟩
   refine ⟨_,rfl,?_⟩
   have HB6:=Lib.hid (zAd (zAk HB.out) hb_)
   have X6:=Lib.hid (zAe (zAl X.out) hb_)
   have x0:=zAb hb_ (zAg c0)
   have x1:=zAb hb_ (zAg c1)
   have x2:=zAb hb_ (zAg y0)
   clear hb_
   refine hK.out _ _ ⟨x0,x1,x2⟩ (fun hHeld => ?_)
   clear hK K
   refine no_ ?_
   refine pu_ 7 21 ?_
   refine done_ (by kernel_rfl) ?_
   by_cases he : t = kind
   ·have h:=HST.out
    rw [he,beq_self_eq_true,Bool.true_and] at h
    have HST1:=Lib.hid h
    subst he
    clear h HST
    go_wp2_with fail
    go_roundg (gk - 1)
    case measure => have:=HN.out; omega
    case rel => exact ⟨i + 1,by norm_cast,hlt,Lib.hid (by have:=HN.out; omega),HST1,HB6,X6⟩
   ·have h:=HST.out
    rw [beq_eq_false_iff_ne.2 he,Bool.false_and] at h
    have HST1:=Lib.hid h
    clear h HST
    go_wp2_with fail
    go_ret
    exact ⟨by rw [HST1.out]; rfl,HB6.out⟩
  ·obtain rfl : i = kl.length:=by omega
   have ho:=HO.out
   rw [List.drop_length] at ho
   have HO1:=Lib.hid ho
   clear ho HO
   go_wp2_with fail
   go_ret
   exact ⟨by rw [HO1.out]; rfl,HB.out⟩
def twR (ns : List S66) (root : Int) (ol : List Int) (q : Int) : Bool :=
 if kdOf ns q = 4 ∨ kdOf ns q = 5 then decide (ofL ns 4 5 (nmOf ns q) (rd_T66 ns (rd ol q)).f4 < q) else decide (ofL ns 2 3 (nmOf ns q) (rd_T66 ns root).f4 < q)
section
variable {ns : List S66} {root : Int} {ol : List Int} (hR : Rt ns root ol)
include hR
theorem gl_lt_pr (g p : Int) (g0 : 0 ≤ g) (g1 : g < ns.length) (p0 : 0 ≤ p) (p1 : p < ns.length) (hg : kdOf ns g = 2) (hp : kdOf ns p = 3) : g < p:=by
 have hr:=rt_in hR
 have mg:=zCy hR g g0 g1 (.inl hg)
 have mp:=zCy hR p p0 p1 (.inr hp)
 have hi:=zCz hR root hr.1 hr.2
 have h:=(hR.ok.at_ hr.1 hr.2).2.2.2.2
 rw [hR.one] at h
 have h : kidsB_1 (kindsOf ns (rd_T66 ns root).f4) = true:=h
 unfold kidsB_1 at h
 have hf:=fin_eq h
 rw [zBg] at hf
 obtain ⟨i,hi1,rfl⟩:=List.mem_iff_getElem.1 mg
 obtain ⟨j,hj1,rfl⟩:=List.mem_iff_getElem.1 mp
 rw [← zCc ns _ i hi1] at hg
 rw [← zCc ns _ j hj1] at hp
 have hlt : i < 0 + rn (fun x => x == 2) 4000 (kindsOf ns (rd_T66 ns root).f4) 0:=by
  rcases Nat.lt_or_ge i (0 + rn (fun x => x == 2) 4000 (kindsOf ns (rd_T66 ns root).f4) 0) with h | h
  ·exact h
  ·obtain ⟨_,h3⟩:=rn_all (fun x => x == 3) 4000 (kindsOf ns (rd_T66 ns root).f4) _ i h (by omega)
   rw [hg] at h3; cases h3
 have hge : ¬ j < 0 + rn (fun x => x == 2) 4000 (kindsOf ns (rd_T66 ns root).f4) 0:=fun h => by
  obtain ⟨_,h3⟩:=rn_all (fun x => x == 2) 4000 (kindsOf ns (rd_T66 ns root).f4) 0 j (Nat.zero_le _) h
  rw [hp] at h3; cases h3
 exact List.pairwise_iff_getElem.1 hi i j hi1 hj1 (by omega)
theorem of_gp (s : Nm) : ofL ns 2 3 s (rd_T66 ns root).f4 = orNo (fstI (fun j => (decide (kdOf ns j = 2) || decide (kdOf ns j = 3)) && decide (nmOf ns j = s)) ns.length):=by
 have hr:=rt_in hR
 refine ofL_fst ns 2 3 s _ ns.length _ (zCz hR root hr.1 hr.2) (fun k hk => ?_) (fun j hj hp => ?_)
 ·have:=kids_in hR root hr.1 hr.2 k hk
  refine ⟨this.1,this.2,fun hm => ?_⟩
  obtain ⟨j,rfl⟩:=Int.eq_ofNat_of_zero_le this.1
  obtain ⟨h1,h2⟩:=hm
  simp only [Int.toNat_natCast,Bool.and_eq_true,Bool.or_eq_true,decide_eq_true_eq]
  exact ⟨h1,h2⟩
 ·simp only [Bool.and_eq_true,Bool.or_eq_true,decide_eq_true_eq] at hp
  exact ⟨zCy hR j (by omega) (by omega) hp.1,hp.1,hp.2⟩
theorem zCq (p : Nat → Bool) (q : Nat) (hq : q < ns.length) (hp : p q = true) : ∃ d : Nat,fstI p ns.length = some (d : Int) ∧ d ≤ q ∧ p d = true ∧ ∀ j,j < d → p j = false:=by
 rcases zCt p ns.length with ⟨_,h⟩ | ⟨d,h1,h2,h3,h4⟩
 ·rw [h q hq] at hp; cases hp
 ·refine ⟨d,h2,?_,h3,h4⟩
  rcases Nat.lt_or_ge q d with h | h
  ·rw [h4 q h] at hp; cases hp
  ·exact h
theorem tw_45 (q : Int) (h0 : 0 ≤ q) (h1 : q < ns.length) (hk : kdOf ns q = 4 ∨ kdOf ns q = 5) : decide ((loF ns ol (rd ol q) ns.length (nmOf ns q)).getD 0 ≠ q) = twR ns root ol q:=by
 have ho:=(hR.own.2 q h0 h1).resolve_left (hR.some_ q h0 h1 (by omega) (by omega))
 unfold twR
 rw [if_pos hk,of_lo hR _ ho.1 ho.2.1 ho.2.2]
 obtain ⟨j,rfl⟩:=Int.eq_ofNat_of_zero_le h0
 obtain ⟨d,e,hd,_,_⟩:=zCq hR (fun i => (decide (kdOf ns i = 4) || decide (kdOf ns i = 5)) && (decide (rd ol i = rd ol j) && decide (nmOf ns i = nmOf ns j))) j (by omega) (by simp [hk])
 rw [show loF ns ol (rd ol j) ns.length (nmOf ns j) = some (d : Int) from e]
 show decide ((d : Int) ≠ j) = decide ((d : Int) < j)
 by_cases h : d = j
 ·rw [h]; simp
 ·rw [decide_eq_true (show (d : Int) ≠ j by omega),decide_eq_true (show (d : Int) < j by omega)]
theorem tw_2 (q : Int) (h0 : 0 ≤ q) (h1 : q < ns.length) (hk : kdOf ns q = 2) : decide ((glF ns ns.length (nmOf ns q)).getD 0 ≠ q) = twR ns root ol q:=by
 unfold twR
 rw [if_neg (by omega),of_gp hR]
 obtain ⟨j,rfl⟩:=Int.eq_ofNat_of_zero_le h0
 obtain ⟨d,e,hd,hp,hn⟩:=zCq hR (fun i => decide (kdOf ns i = 2) && decide (nmOf ns i = nmOf ns j)) j (by omega) (by simp [hk])
 obtain ⟨d',e',hd',hp',hn'⟩:=zCq hR (fun i => (decide (kdOf ns i = 2) || decide (kdOf ns i = 3)) && decide (nmOf ns i = nmOf ns j)) j (by omega) (by simp [hk])
 rw [show glF ns ns.length (nmOf ns j) = some (d : Int) from e,e']
 show decide ((d : Int) ≠ j) = decide ((d' : Int) < j)
 simp only [Bool.and_eq_true,Bool.or_eq_true,decide_eq_true_eq] at hp hp'
 have hdd : d = d':=by
  rcases Nat.lt_trichotomy d d' with h | h | h
  ·have:=hn' d h; simp [hp] at this
  ·exact h
  ·have:=hn d' h
   rcases hp'.1 with h3 | h3
   ·simp [h3,hp'.2] at this
   ·have:=gl_lt_pr hR (j : Int) (d' : Int) (by omega) (by omega) (by omega) (by omega) hk h3
    omega
 rw [← hdd]
 by_cases h : d = j
 ·rw [h]; simp
 ·rw [decide_eq_true (show (d : Int) ≠ j by omega),decide_eq_true (show (d : Int) < j by omega)]
theorem tw_3 (q : Int) (h0 : 0 ≤ q) (h1 : q < ns.length) (hk : kdOf ns q = 3) : ((glF ns ns.length (nmOf ns q)).isSome || decide ((prF ns ns.length (nmOf ns q)).getD 0 ≠ q)) = twR ns root ol q:=by
 unfold twR
 rw [if_neg (by omega),of_gp hR]
 obtain ⟨j,rfl⟩:=Int.eq_ofNat_of_zero_le h0
 obtain ⟨d,e,hd,hp,hn⟩:=zCq hR (fun i => decide (kdOf ns i = 3) && decide (nmOf ns i = nmOf ns j)) j (by omega) (by simp [hk])
 obtain ⟨d',e',hd',hp',hn'⟩:=zCq hR (fun i => (decide (kdOf ns i = 2) || decide (kdOf ns i = 3)) && decide (nmOf ns i = nmOf ns j)) j (by omega) (by simp [hk])
 rw [show prF ns ns.length (nmOf ns j) = some (d : Int) from e,e']
 show ((glF ns ns.length (nmOf ns j)).isSome || decide ((d : Int) ≠ j)) = decide ((d' : Int) < j)
 simp only [Bool.and_eq_true,Bool.or_eq_true,decide_eq_true_eq] at hp hp'
 have hle : d' ≤ d:=by
  rcases Nat.lt_or_ge d d' with h | h
  ·have:=hn' d h; simp [hp] at this
  ·exact h
 rcases zCt (fun i => decide (kdOf ns i = 2) && decide (nmOf ns i = nmOf ns j)) ns.length with ⟨eg,hg⟩ | ⟨g,g1,eg,g3,g4⟩
 ·rw [show glF ns ns.length (nmOf ns j) = none from eg]
  have hdd : d = d':=by
   rcases Nat.lt_or_ge d' d with h | h
   ·have h5:=hn d' h
    rcases hp'.1 with h3 | h3
    ·have:=hg d' (by omega); simp [h3,hp'.2] at this
    ·simp [h3,hp'.2] at h5
   ·omega
  rw [← hdd]
  by_cases h : d = j
  ·rw [h]; simp
  ·rw [decide_eq_true (show (d : Int) ≠ j by omega),decide_eq_true (show (d : Int) < j by omega)]; rfl
 ·rw [show glF ns ns.length (nmOf ns j) = some (g : Int) from eg]
  simp only [Bool.and_eq_true,decide_eq_true_eq] at g3
  have h5:=gl_lt_pr hR (g : Int) (j : Int) (by omega) (by omega) (by omega) (by omega) g3.1 hk
  have h6 : d' ≤ g:=by
   rcases Nat.lt_or_ge g d' with h | h
   ·have:=hn' g h; simp [g3] at this
   ·exact h
  rw [decide_eq_true (show (d' : Int) < j by omega)]
  rfl
end
theorem rtwice_is (At : Option Addr) (ct : Nat) (ns : List S66) (root : Int) (ol ps : List Int) (q : Int) (h0 : 0 ≤ q) (h1 : q < ns.length) (hk : kdOf ns q = 2 ∨ kdOf ns q = 3 ∨ kdOf ns q = 4 ∨ kdOf ns q = 5) (w : World) (hW : RW At ct ns root ol ps w) :
  Calls Tryz.prog 82 #[.agg #[.slice At ns.length ct,.int .i64 root],.int .i64 q] w fun e w' => e = .returned (.bool (twR ns root ol q)) ∧ Below w.heap.size w w':=by
 obtain ⟨ad,A4,c4,k,n,at_,tx,kl,W1,rfl,hx0,cb,z0,z1,z2,z3,z4,hW1,hb1,x1,n1,hCk,hkl⟩:=zCx (ct:=ct) (root:=root) hW.hC h0 h1
 have hmem:=zAA ns q h0 h1
 have hkn:=(hW.hR.fit.2 _ hmem).1
 have hkl4:=(hW.hR.fit.2 _ hmem).2.1
 have hk0 : kdOf ns q = k:=by unfold kdOf; rw [hx0]
 have ht0 : nmOf ns q = tx.data.toList:=by unfold nmOf; rw [hx0]
 rw [hx0] at hkn hkl4
 dsimp only at hkn hkl4
 have HB1:=Lib.hid hb1
 have X1:=Lib.hid x1
 have N1:=Lib.hid n1
 have HW1:=Lib.hid hW1
 have HW:=Lib.hid hW
 have HCK:=Lib.hid hCk
 have e0:=eq_true h0
 have e1:=eq_true h1
 have c10:=bc_ X1.out 0
 have c11:=bc_ X1.out 1
 have n10:=bc_ N1.out 0
 have n13:=bc_ N1.out 3
 have n14:=bc_ N1.out 4
 rw [HW1.out] at c10 c11 n10 n13 n14
 have hrt:=rt_in hW.hR
 have hown:=fun h => (hW.hR.own.2 q h0 h1).resolve_left (hW.hR.some_ q h0 h1 (by omega) h)
 have HOW:=Lib.hid (fun (W : World) (hb : Below w.heap.size w W) => zDj (some ad) ct ns root ol ps hW.hR hW.hPr q h0 h1 W (hW.below hb).hC hW.hct (hW.below hb).hPar)
 have hOF:=fun (p a b : Int) (p0 : 0 ≤ p) (p1 : p < ns.length) (W : World) (hb : Below w.heap.size w W) => of_is (some ad) ct ns root p p0 p1 hW.hR.kidsIn a b tx W (hW.below hb).hC hW.hct
 have htw : twR ns root ol q = if kdOf ns q = 4 ∨ kdOf ns q = 5 then decide (ofL ns 4 5 (nmOf ns q) (rd_T66 ns (rd ol q)).f4 < q) else decide (ofL ns 2 3 (nmOf ns q) (rd_T66 ns root).f4 < q):=rfl
 obtain ⟨r,hr⟩ : ∃ r,r = twR ns root ol q:=⟨_,rfl⟩
 obtain ⟨o,ho⟩ : ∃ o,o = rd ol q:=⟨_,rfl⟩
 rw [← hr,hk0,ht0,← ho] at htw
 rw [← hr]
 rw [← ho] at hown HOW
 rw [hk0] at hk hown
 have HTW:=Lib.hid htw
 have HOWN:=Lib.hid hown
 clear hW hx0 hmem hkn hkl4 hk0 ht0 hb1 x1 n1 hW1 hCk hr ho htw hown
 by_cases h45 : k = 4 ∨ k = 5
 ·have h:=HTW.out
  rw [if_pos h45] at h
  have hin:=HOWN.out (by omega)
  obtain ⟨d,hd⟩ : ∃ d,d = ofL ns 4 5 tx.data.toList (rd_T66 ns o).f4:=⟨_,rfl⟩
  have HOF:=Lib.hid (hOF o 4 5 hin.1 hin.2.1)
  rw [← hd] at h HOF
  have HV:=Lib.hid h
  clear h HTW hd HOWN hin hOF
  rcases h45 with rfl | rfl <;> (
   go_enter Tryz.func82,Tryz.ntmps82
   go_wp2_with fail
   rw [← HW1.out] at c10 c11 n13 ⊢
   have c0:=c10
   have c1:=c11
   have n3:=n13
   refine start_ (n:=10) (S:=fun w' => w'.cell? ⟨w.heap.size,0,none⟩ = some (.slice (some ad) ns.length ct) ∧ w'.cell? ⟨w.heap.size,1,none⟩ = some (.int .i64 root) ∧ w'.cell? ⟨w.heap.size + 1,3,none⟩ = some (.string tx)) (ds:=[]) #[false,false,false,false,false,false,false,false,false,false] (by kernel_rfl) rfl rfl ⟨zAg c0,zAg c1,zAg n3⟩ (fun hHeld => ?_)
   refine pu_ 2 21 ?_
   refine pu_ 4 23 ?_
   refine pu_ 7 26 ?_
   refine ta_ 0 19 hHeld ?_
   refine ta_ 1 20 hHeld ?_
   refine ta_ 5 24 hHeld ?_
   refine on_ 3 (some 22) (fun K hK => ?_)
   refine gs_ Tryz.func89 #[.agg #[.slice (some ad) ns.length ct,.int .i64 root],.int .i64 q] ?_
   with_reducible refine (HOW.out W1.drew (zAk HB1.out)).mono ?_
   rintro e_ w6 ⟨rfl,hb_⟩
   refine ⟨_,rfl,?_⟩
   have HB6:=Lib.hid (zAd (zAk HB1.out) hb_)
   have y60:=zAb hb_ (zAg c0)
   have y61:=zAb hb_ (zAg c1)
   have y63:=zAb hb_ (zAg n3)
   clear hb_
   refine hK.out _ _ ⟨y60,y61,y63⟩ (fun hHeld => ?_)
   clear hK K
   refine no_ ?_
   refine on_ 6 (some 25) (fun K hK => ?_)
   refine gs_ Tryz.func44 #[.agg #[.slice (some ad) ns.length ct,.int .i64 root],.int .i64 o,.int .i64 4,.int .i64 5,.string tx] ?_
   with_reducible refine (HOF.out w6 HB6.out).mono ?_
   rintro e_ w7 ⟨rfl,hb_⟩
   refine ⟨_,rfl,?_⟩
   have HB7:=Lib.hid (zAd HB6.out hb_)
   have y70:=zAb hb_ y60
   have y71:=zAb hb_ y61
   have y73:=zAb hb_ y63
   clear hb_
   refine hK.out _ _ ⟨y70,y71,y73⟩ (fun hHeld => ?_)
   clear hK K
   refine no_ ?_
   refine pu_ 8 27 ?_
   refine pu_ 9 4 ?_
   refine done_ (by kernel_rfl) ?_
   go_wp2_with fail
   go_ret
   exact ⟨by rw [HV.out]; rfl,HB7.out⟩)
 ·have h:=HTW.out
  rw [if_neg h45] at h
  obtain ⟨d,hd⟩ : ∃ d,d = ofL ns 2 3 tx.data.toList (rd_T66 ns root).f4:=⟨_,rfl⟩
  have HOF:=Lib.hid (hOF root 2 3 hrt.1 hrt.2)
  rw [← hd] at h HOF
  have HV:=Lib.hid h
  have hk2 : k = 2 ∨ k = 3:=by omega
  clear h HTW hd HOWN h45 hk hOF
  rcases hk2 with rfl | rfl <;> (
   go_enter Tryz.func82,Tryz.ntmps82
   go_wp2_with fail
   rw [← HW1.out]
   refine (HOF.out W1 HB1.out).mono ?_
   rintro e_ W2 ⟨rfl,hb_⟩
   have HB2:=Lib.hid (zAd HB1.out hb_)
   clear hb_
   go_wp2_with fail
   go_ret
   exact ⟨by rw [HV.out]; rfl,HB2.out⟩)
end Go.Proofs.YtkhlfdcjgooogaaGreat.P
