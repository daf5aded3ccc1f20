import Derived.Test.YtkhlfdcjgooogaaGreatWWords
import Derived.WalkKit
import Derived.ProofKit
import Derived.OpenShut
import Derived.ShutString
import Derived.ChangeOld
import Derived.Below
import Derived.SizedLaws
import Derived.Deep.Slices
import Derived.Test.YtkhlfdcjgooogaaGreatPf29
import Derived.Test.YtkhlfdcjgooogaaGreatHDoesS
import Derived.Test.YtkhlfdcjgooogaaGreatWMore
import Derived.Test.YtkhlfdcjgooogaaGreatPf11
import Derived.Shelf.Vars
import Derived.HandedShaped
set_option maxRecDepth 100000
set_option maxHeartbeats 16000000
set_option linter.unusedVariables false
set_option linter.unusedSimpArgs false
set_option linter.unusedSectionVars false
namespace Go.Proofs.YtkhlfdcjgooogaaGreat.Op
open Go.RowKit Go.ChangeShapes Go.WideShapes Go.ChangeAt Go.Deep Go.Proofs.YtkhlfdcjgooogaaGreatW.PrintWords
def Rd {α : Type} (P : Program) (t : TypeId) (d : Kd α) (G : α → Prop) : Prop :=
 ∀ (H : Type) (enc : TypeId × Value → H) (w : World) (fuel : Nat) (cs : List Value) (x : DataW H × List MemPlace),
  DataW.trod enc P w 0 (fun _ => true) true fuel t cs = some x → ∃ a,d.K w a cs ∧ G a
variable {P : Program} {t : TypeId}
theorem Rd.int {k : IntKind} (ht : P.underlying t = some (.int k)) : Rd P t (Kd.int k) (fun a => (Lit.int k a).wf = true):=fun H enc w fuel cs x h => by
 obtain ⟨n,rfl,_,hw⟩:=DataW.trod_int ht h
 exact ⟨n,rfl,hw⟩
theorem Rd.string (ht : P.underlying t = some .string) : Rd P t Kd.string (fun s => s.size ≤ maxLen):=fun H enc w fuel cs x h => by
 obtain ⟨s,rfl,_,hs⟩:=DataW.trod_string ht h
 exact ⟨s,rfl,hs⟩
theorem zBF (a : Addr) (n : Nat) : (a.add n).block = a.block:=by unfold Addr.add; split <;> rfl
theorem Rd.slice {α : Type} {e : TypeId} {d : Kd α} {G : α → Prop} (ht : P.underlying t = some (.slice e)) (hC : P.cellsOf e = d.sz) (he : Rd P e d G) :
  Rd P t (Kd.slice e d) (fun xs => xs.length ≤ maxLen ∧ ∀ a ∈ xs,G a):=fun H enc w fuel cs x h => by
 rcases open_slice ht h with ⟨rfl,_⟩ | ⟨a,len,cap,m,n,D,Pl,rfl,_,hl,hm,hmm,_,hi⟩
 ·exact ⟨[],⟨none,0,rfl,Nat.le_refl _,rfl,by simp,fun hp => absurd hp (by simp)⟩,by simp,fun a ha => by cases ha⟩
 ·have hlen : len ≤ maxLen:=Nat.le_trans hl hm
  have hlm : len ≤ m:=by rw [hmm]; split <;> omega
  have hx : ∀ i : Fin len,∃ y : α,G y ∧ ∃ cs',cs'.length = d.sz ∧ d.K w y cs' ∧ ∀ j u,cs'[j]? = some u → w.cell? (a.add (i.val * d.sz + j)) = some u:=fun i => by
   obtain ⟨cs',hc,ht'⟩:=hi i.val (by have:=i.isLt; omega)
   obtain ⟨y,hK,hG⟩:=he H enc w n cs' _ ht'
   obtain ⟨_,hcl,hat⟩:=World.cells?_some hc
   refine ⟨y,hG,cs',by rw [hcl,hC],hK,fun j u hu => ?_⟩
   have hj : j < P.cellsOf e:=by rw [← hcl]; exact (List.getElem?_eq_some_iff.1 hu).1
   have:=hat j hj
   rw [Go.Deep.add_add,hC] at this
   exact this.trans hu
  refine ⟨List.ofFn fun i => Classical.choose (hx i),⟨some a,cap,by simp,by simpa using hl,?_⟩,by simpa using hlen,fun y hy => ?_⟩
  ·refine ⟨by simp,by simp only [List.length_ofFn]; simp only [maxLen] at hlen; omega,fun _ => ⟨a,rfl,fun j p hj => ?_⟩⟩
   obtain ⟨hjl,hp⟩:=List.getElem?_eq_some_iff.1 hj
   rw [List.length_ofFn] at hjl
   rw [List.getElem_ofFn] at hp
   subst hp
   obtain ⟨_,c,h1,h2,h3⟩:=Classical.choose_spec (hx ⟨j,hjl⟩)
   exact ⟨c,h1,h2,h3⟩
  ·obtain ⟨i,hi'⟩:=List.mem_ofFn.1 hy
   rw [← hi']
   exact (Classical.choose_spec (hx i)).1
theorem pairK {α β : Type} {a : Kd α} {b : Kd β} {w : World} {x : α} {y : β} {cs : List Value} (o : Nat) (h1 : a.K w x ((cs.drop o).take a.sz)) (h2 : b.K w y (cs.drop (o + a.sz))) : (Kd.pair a b).K w (x,y) (cs.drop o) :=
 ⟨_,_,by rw [Nat.add_comm,← List.drop_drop,List.drop_drop,Nat.add_comm,← List.drop_drop]; exact (List.take_append_drop _ _).symm,h1,h2⟩
theorem lastK {α : Type} {a : Kd α} {w : World} {x : α} {cs : List Value} (o : Nat) (hl : cs.length = o + a.sz) (h1 : a.K w x ((cs.drop o).take a.sz)) : a.K w x (cs.drop o):=by
 rwa [List.take_of_length_le (by rw [List.length_drop]; omega)] at h1
theorem Rd.field {α : Type} {H : Type} {enc : TypeId × Value → H} {w : World} {n o : Nat} {cs : List Value} {ft : TypeId} {d : Kd α} {G : α → Prop} (hd : Rd P ft d G) (hC : P.cellsOf ft = d.sz) (y : Option (DataW H × List MemPlace)) (hy : y.isSome = true)
  (h : DataW.trod enc P w 0 (fun _ => true) true n ft ((cs.drop o).take (P.cellsOf ft)) = y) : ∃ a,d.K w a ((cs.drop o).take d.sz) ∧ G a:=by
 rw [hC] at h
 obtain ⟨z,rfl⟩:=Option.isSome_iff_exists.1 hy
 exact hd H enc w n _ _ h
theorem toArray_of {cs : Array Value} {l : List Value} (h : cs.toList = l) : cs = l.toArray:=by rw [← h]
end Go.Proofs.YtkhlfdcjgooogaaGreat.Op
namespace Go.Proofs.YtkhlfdcjgooogaaGreat.P
open Go.RowKit Go.ChangeShapes Go.WideShapes Go.ChangeAt Go.Deep Go.Proofs.YtkhlfdcjgooogaaGreatW.PrintWords Go.Proofs.YtkhlfdcjgooogaaGreat.Op
theorem cVal : Tryz.prog.cellsOf 43 = 2:=by kernel_rfl
theorem cI : Tryz.prog.cellsOf 3 = 1:=by kernel_rfl
theorem cS : Tryz.prog.cellsOf 9 = 1:=by kernel_rfl
theorem cAct : Tryz.prog.cellsOf 45 = 8:=by kernel_rfl
theorem cName : Tryz.prog.cellsOf 48 = 3:=by kernel_rfl
def k2 : Kd (Int × Int):=Kd.pair (Kd.int .i64) (Kd.int .i64)
theorem int_one {w : World} {a : Int} {cs : List Value} (h : (Kd.int .i64).K w a cs) : cs = [.int .i64 a]:=h
theorem rdV : Rd Tryz.prog 43 k2 (fun _ => True):=fun H enc w fuel cs x h => by
 obtain ⟨xs,n,_,_,hlen,hxl,hg⟩:=DataW.trod_struct Tryz.underlying43 h
 rw [cVal] at hlen
 have hs : ∀ j,j < 2 → (xs[j]?).isSome = true:=fun j hj => by
  rw [List.getElem?_eq_getElem (by rw [hxl]; exact hj)]; rfl
 obtain ⟨a0,h0,g0⟩:=Rd.field (Rd.int Tryz.underlying3) cI _ (hs 0 (by decide)) (hg 0 _ rfl)
 obtain ⟨a1,h1,g1⟩:=Rd.field (Rd.int Tryz.underlying3) cI _ (hs 1 (by decide)) (hg 1 _ rfl)
 exact ⟨(a0,a1),pairK 0 h0 (lastK 1 hlen h1),trivial⟩
theorem k2_open {w : World} {x : Int × Int} {cs : List Value} (h : k2.K w x cs) : cs = [.int .i64 x.1,.int .i64 x.2]:=by
 obtain ⟨c0,c1,rfl,h0,h1⟩:=h
 rw [int_one h0,int_one h1]
 rfl
abbrev A8:=Int × Int × (Int × Int) × (Int × Int) × (Int × Int)
def k8 : Kd A8:=Kd.pair (Kd.int .i64) (Kd.pair (Kd.int .i64) (Kd.pair k2 (Kd.pair k2 k2)))
theorem rdAct : Rd Tryz.prog 45 k8 (fun _ => True):=fun H enc w fuel cs x h => by
 obtain ⟨xs,n,_,_,hlen,hxl,hg⟩:=DataW.trod_struct Tryz.underlying45 h
 rw [cAct] at hlen
 have hs : ∀ j,j < 5 → (xs[j]?).isSome = true:=fun j hj => by
  rw [List.getElem?_eq_getElem (by rw [hxl]; exact hj)]; rfl
 obtain ⟨a0,h0,g0⟩:=Rd.field (Rd.int Tryz.underlying3) cI _ (hs 0 (by decide)) (hg 0 _ rfl)
 obtain ⟨a1,h1,g1⟩:=Rd.field (Rd.int Tryz.underlying3) cI _ (hs 1 (by decide)) (hg 1 _ rfl)
 obtain ⟨a2,h2,g2⟩:=Rd.field rdV cVal _ (hs 2 (by decide)) (hg 2 _ rfl)
 obtain ⟨a3,h3,g3⟩:=Rd.field rdV cVal _ (hs 3 (by decide)) (hg 3 _ rfl)
 obtain ⟨a4,h4,g4⟩:=Rd.field rdV cVal _ (hs 4 (by decide)) (hg 4 _ rfl)
 exact ⟨(a0,a1,a2,a3,a4),pairK 0 h0 (pairK 1 h1 (pairK 2 h2 (pairK 4 h3 (lastK 6 hlen h4)))),trivial⟩
theorem rdActs : Rd Tryz.prog 26 (Kd.slice 45 k8) (fun xs => xs.length ≤ maxLen ∧ ∀ a ∈ xs,True):=Rd.slice Tryz.underlying26 cAct rdAct
theorem rdNV : Rd Tryz.prog 48 kNV (fun _ => True):=fun H enc w fuel cs x h => by
 obtain ⟨xs,n,_,_,hlen,hxl,hg⟩:=DataW.trod_struct Tryz.underlying48 h
 rw [cName] at hlen
 have hs : ∀ j,j < 2 → (xs[j]?).isSome = true:=fun j hj => by
  rw [List.getElem?_eq_getElem (by rw [hxl]; exact hj)]; rfl
 obtain ⟨a0,h0,g0⟩:=Rd.field (Rd.string Tryz.underlying9) cS _ (hs 0 (by decide)) (hg 0 _ rfl)
 obtain ⟨a1,h1,g1⟩:=Rd.field rdV cVal _ (hs 1 (by decide)) (hg 1 _ rfl)
 exact ⟨(a0,a1),pairK 0 h0 (lastK 1 hlen h1),trivial⟩
theorem rdNVs : Rd Tryz.prog 25 (Kd.slice 48 kNV) (fun xs => xs.length ≤ maxLen ∧ ∀ a ∈ xs,True):=Rd.slice Tryz.underlying25 cName rdNV
def flat8 (x : A8) : Array Value:=#[.int .i64 x.1,.int .i64 x.2.1,.int .i64 x.2.2.1.1,.int .i64 x.2.2.1.2,.int .i64 x.2.2.2.1.1,.int .i64 x.2.2.2.1.2,.int .i64 x.2.2.2.2.1,.int .i64 x.2.2.2.2.2]
theorem k8_open {w : World} {x : A8} {cs : List Value} (h : k8.K w x cs) : cs = (flat8 x).toList:=by
 obtain ⟨c0,r0,rfl,h0,c1,r1,rfl,h1,c2,r2,rfl,h2,c3,c4,rfl,h3,h4⟩:=h
 rw [int_one h0,int_one h1,k2_open h2,k2_open h3,k2_open h4]
 rfl
theorem acts_at {w : World} {A : Option Addr} {l : List A8} (h : Kd.C k8 w A l.length l) (k : Nat) (hk : k < l.length) : ∃ b off x,A = some ⟨b,off,none⟩ ∧ b < w.heap.size ∧ ∀ j u,(flat8 x)[j]? = some u → w.cell? ⟨b,off + k * 8 + j,none⟩ = some u:=by
 obtain ⟨ad,c,rfl,hcl,hK,hc⟩:=Kd.C_get h (0,0,(0,0),(0,0),0,0) (k : Int) (by omega) (by omega)
 have e:=k8_open hK
 subst e
 have h0:=hc 0 _ rfl
 obtain ⟨ad',c',he,_,hK',hc'⟩:=Kd.C_get h (0,0,(0,0),(0,0),0,0) 0 (by omega) (by omega)
 cases he
 have e':=k8_open hK'
 subst e'
 have h0':=hc' 0 _ rfl
 obtain ⟨_,_,_,_,hs⟩:=World.shape?_of_cell? h0'
 have hs' : ad.spot = none:=by simpa [Addr.add] using hs
 obtain ⟨b,off,spot⟩:=ad
 simp only at hs'
 subst hs'
 have hlt:=World.block_lt_of_cell? w _ h0
 have e8 : k8.sz = 8:=rfl
 have ea : ∀ n,(⟨b,off,none⟩ : Addr).add n = ⟨b,off + n,none⟩:=fun n => by unfold Addr.add; simp
 simp only [ea,e8,Int.toNat_natCast] at hc hlt
 exact ⟨b,off,_,rfl,hlt,fun j u hu => by rw [Nat.add_assoc]; exact hc j u (by simpa using hu)⟩
open Go.RowKit Go.Proofs.YtkhlfdcjgooogaaGreatW.PrintWords
def pk (o : Int) : Int:=(zAL.f o 4).getD 0
theorem pk_some (o : Int) : zAL.f o 4 = some (pk o):=by
 unfold pk zAL.f
 split <;> simp
def actL (L : List (List Int)) (x : A8) : List (List Int):=if pk x.1 = 0 then newL L x.2.1 else if pk x.1 = 1 then L else setL L x.2.2.1.1 x.2.2.1.2 x.2.2.2.1.1 x.2.2.2.1.2 x.2.2.2.2.1 x.2.2.2.2.2
theorem does_same {w : World} {Bh Bm : Nat} {okh okm : Nat → Prop} {L : List (List Int)} (T : Two w Bh Bm okh okm L L) (x : A8) :
  Calls Tryz.prog 6 #[.pointer (some ⟨Bh,0,none⟩),.pointer (some ⟨Bm,0,none⟩),.agg (flat8 x)] w fun e w' => (∃ b : Bool,e = .returned (.bool b)) ∧ After w Bh Bm okh okm (actL L x) (actL L x) w':=by
 obtain ⟨o,n,⟨a,an⟩,⟨i,ii⟩,v,vn⟩:=x
 have hp:=pk_some o
 unfold actL flat8
 simp only
 by_cases h0 : pk o = 0
 ·rw [h0] at hp
  rw [if_pos h0]
  exact (does_newC o n a an i ii v vn (L:=L) (M:=L) (x0:=newK L n) (x1:=newN L n) (e:=newE L n) ⟨rfl,rfl,rfl,rfl⟩ ⟨rfl,rfl,rfl,rfl⟩ T hp).mono fun e w' hh => ⟨⟨_,hh.1⟩,hh.2⟩
 ·rw [if_neg h0]
  by_cases h1 : pk o = 1
  ·rw [h1] at hp
   rw [if_pos h1]
   exact (does_getC o n a an i ii v vn (L:=L) (M:=L) (x0:=getK L a an i ii) (x1:=getN L a an i ii) ⟨rfl,rfl,rfl⟩ ⟨rfl,rfl,rfl⟩ T hp).mono fun e w' hh => ⟨⟨_,hh.1⟩,hh.2⟩
  ·rw [if_neg h1]
   exact (does_set o n a an i ii v vn (pk o) rfl rfl (by simpa using h0) (by simpa using h1) T hp).mono fun e w' hh => ⟨⟨_,hh.1⟩,hh.2⟩
structure Eqs (w : World) (n : Nat) (wr : World) (Bh Bm : Nat) (okh okm : Nat → Prop) (L : List (List Int)) : Prop where
 two : Two wr Bh Bm okh okm L L
 sh : ∀ k,okh k → n ≤ k
 sm : ∀ k,okm k → n ≤ k
 bel : Below n w wr
 le : n ≤ wr.heap.size
variable {w wr w' : World} {n Bh Bm : Nat} {okh okm okh' okm' : Nat → Prop} {L : List (List Int)}
theorem Eqs.below (h : Eqs w n wr Bh Bm okh okm L) (hb : Below wr.heap.size wr w') : Eqs w n w' Bh Bm okh okm L:=⟨h.two.below hb,h.sh,h.sm,h.bel.trans (hb.mono h.le),Nat.le_trans h.le hb.size⟩
theorem Eqs.act {x : A8} (h : Eqs w n wr Bh Bm okh okm L) (R : Run wr okh okm w' Bh Bm okh' okm' (actL L x) (actL L x)) : Eqs w n w' Bh Bm okh' okm' (actL L x) :=
 ⟨R.two,fun k hk => (R.sh k hk).elim (h.sh k) (fun h2 => Nat.le_trans h.le h2),fun k hk => (R.sm k hk).elim (h.sm k) (fun h2 => Nat.le_trans h.le h2),h.bel.trans (R.chg.below h.le (fun x hx ho => by rcases ho with ho | ho; have:=h.sh x ho; omega; have:=h.sm x ho; omega)),Nat.le_trans h.le R.chg.size⟩
open Go.RowKit Go.Proofs.YtkhlfdcjgooogaaGreatW.PrintWords Go.Proofs.YtkhlfdcjgooogaaGreatW.PrintLast Go.Proofs.YtkhlfdcjgooogaaGreatW.PrintMore
theorem kNV_mkM (w : World) (base : Nat) (ok : Nat → Prop) (x : NV) : kNV.M w base ok x [.string x.1,.int .i64 x.2.1,.int .i64 x.2.2] :=
 ⟨[.string x.1],[.int .i64 x.2.1,.int .i64 x.2.2],rfl,rfl,[.int .i64 x.2.1],[.int .i64 x.2.2],rfl,rfl,rfl⟩
theorem infoRN : (Tryz.prog.info? 52).map (fun i => (i.zero,i.size,i.bytes)) = some (some (.agg #[.string ⟨#[]⟩,.int .i64 0,.int .i64 0]),3,32):=by kernel_rfl
theorem undRN : Tryz.prog.underlying 46 = some (.slice 52):=by kernel_rfl
theorem ValueEvals_is (At : Option Addr) (ct : Nat) (ns : List S66) (root : Int) (An : Option Addr) (cn : Nat) (nl : List NV) (Al : Option Addr) (cl : Nat) (al : List A8) (w : World) (hC : Kd.C k66 w At ns.length ns) (hct : ns.length ≤ ct) (hE : Env w) (hN : Kd.C kNV w An nl.length nl) (hcn : nl.length ≤ cn) (hA : Kd.C k8 w Al al.length al) :
  Calls Tryz.prog 3 #[.agg #[.slice At ns.length ct,.int .i64 root],.slice An nl.length cn,.slice Al al.length cl] w fun e w' => e = .returned (.bool true) ∧ Below w.heap.size w w':=by
 obtain ⟨W0,hW0⟩ : ∃ W0,W0 = w.alloc (.cells #[.slice At ns.length ct,.int .i64 root] 24):=⟨_,rfl⟩
 have HB0:=Lib.hid (box_is At ct ns root w W0 hW0).1
 have X0:=Lib.hid (box_is At ct ns root w W0 hW0).2
 have HW0:=Lib.hid hW0
 have HC:=Lib.hid hC
 have HE:=Lib.hid hE
 have HNV:=Lib.hid hN
 have HRD:=Lib.hid (fun k hk => acts_at hA k hk)
 obtain ⟨m,hm⟩ : ∃ m,m = al.length:=⟨_,rfl⟩
 have HM:=Lib.hid hm
 rw [← hm] at HRD ⊢
 obtain ⟨sm,hsm⟩ : ∃ sm,sm = smB ns:=⟨_,rfl⟩
 have HSM:=Lib.hid hsm
 have HS:=Lib.hid (fun (W : World) (hb : Below w.heap.size w W) => small_is At ct ns root W (Kd.C_below hC hb) hct)
 rw [← hsm] at HS
 clear hW0 hC hE hN hA hm hsm
 go_enter Tryz.func3,Tryz.ntmps3
 go_wp2_with fail
 rw [← HW0.out]
 refine (zBx.calls true W0 rfl).mono ?_
 rintro e_ W1 ⟨rfl,hb_⟩
 have HB1:=Lib.hid (zAd HB0.out hb_)
 have X1:=Lib.hid (zAe X0.out hb_)
 clear hb_ HB0 X0 HW0
 have c0:=bc_ X1.out 0
 have c1:=bc_ X1.out 1
 go_wp2_with fail
 refine (HS.out W1 HB1.out).mono ?_
 rintro e_ W2 ⟨rfl,hb_⟩
 have HB2:=Lib.hid (zAd HB1.out hb_)
 have X2:=Lib.hid (zAe X1.out hb_)
 clear hb_ HB1 X1 c0 c1 HS
 cases sm
 ·go_wp2_with fail
  go_ret
  exact ⟨rfl,HB2.out⟩
 by_cases hl1 : (30 : Int) < nl.length
 ·go_wp2_with fail
  go_ret
  exact ⟨rfl,HB2.out⟩
 by_cases hl2 : (20 : Int) < m
 ·go_wp2_with fail
  go_ret
  exact ⟨rfl,HB2.out⟩
 obtain ⟨hS1,hS2⟩:=sm_of HSM.out.symm
 have HS1:=Lib.hid hS1
 have HL1:=Lib.hid hl1
 have HL2:=Lib.hid hl2
 have HS2:=Lib.hid hS2
 have hn0 : w.heap.size < W2.heap.size:=blk_lt X2.out
 have HN0:=Lib.hid hn0
 go_wp2_with fail
 clear hS1 hS2 HSM hn0
 obtain ⟨W3,hW3⟩ : ∃ W_,W_ = (W2.alloc (.cells #[.slice none 0 0,.int .i64 0] 37)).alloc (.cells #[.slice none 0 0] 40):=⟨_,rfl⟩
 rw [← hW3]
 obtain ⟨n,hn⟩ : ∃ n,n = W2.heap.size:=⟨_,rfl⟩
 obtain ⟨Bm,hBm⟩ : ∃ Bm,Bm = n + 1:=⟨_,rfl⟩
 rw [← hn,← hBm]
 have R0 : Hid (Eqs W2 n W3 n Bm (fun k => k = n) (fun k => k = Bm) []):=Lib.hid ⟨⟨by rw [hW3,hn]; exact HA.empty (zAj (heap_alloc_new _ _) _),by rw [hW3,hBm,hn]; exact HR.empty (nb1 _ _ _),fun k h1 h2 => by omega,fun k hk => by rw [hk,hW3,hn]; simp; omega,fun k hk => by rw [hk,hW3,hBm,hn]; simp,by decide,by decide⟩,fun k hk => by rw [hk]; exact Nat.le_refl _,fun k hk => by omega,by rw [hW3,hn]; exact zAa (zAa (Below.refl _ _) _) _,by rw [hW3,hn]; simp; omega⟩
 have HN1 : Hid (w.heap.size < n):=Lib.hid (by rw [hn]; exact HN0.out)
 clear hW3 hBm hn HN0
 go_loopg [11] (m + 1) (fun kq v11 W => ∃ k : Nat,v11 = .int .i64 k ∧ k ≤ m ∧ Hid (k + kq = m + 1) ∧ Hid (∃ okh okm L,Eqs W2 n W n Bm okh okm L))
 case atStart => exact ⟨0,rfl,Nat.zero_le _,Lib.hid (by omega),Lib.hid ⟨_,_,_,R0.out⟩⟩
 case round =>
  obtain ⟨k,rfl,hk,HN,HQ⟩:=hrel
  by_cases hlt : k < m
  ·obtain ⟨okh,okm,L,hQ⟩:=HQ.out
   have R:=Lib.hid hQ
   have hbel : Below w.heap.size w wr:=HB2.out.trans (hQ.bel.mono (by have:=HN1.out; omega))
   obtain ⟨b,off,x,rfl,hblt,hcell⟩:=HRD.out k hlt
   have HX:=Lib.hid (fun W (T : Two W n Bm okh okm L L) => does_same T x)
   obtain ⟨o,n1,⟨a,an⟩,⟨ai,ii⟩,v,vn⟩:=x
   have q0 : wr.cell? ⟨b,off + k * 8,none⟩ = some (.int .i64 o):=(hbel.cell (p:=⟨b,off + k * 8 + 0,none⟩) hblt).trans (hcell 0 _ rfl)
   have q1 : wr.cell? ⟨b,off + k * 8 + 1,none⟩ = some (.int .i64 n1):=(hbel.cell (p:=⟨b,off + k * 8 + 1,none⟩) hblt).trans (hcell 1 _ rfl)
   have q2 : wr.cell? ⟨b,off + k * 8 + 2,none⟩ = some (.int .i64 a):=(hbel.cell (p:=⟨b,off + k * 8 + 2,none⟩) hblt).trans (hcell 2 _ rfl)
   have q3 : wr.cell? ⟨b,off + k * 8 + 3,none⟩ = some (.int .i64 an):=(hbel.cell (p:=⟨b,off + k * 8 + 3,none⟩) hblt).trans (hcell 3 _ rfl)
   have q4 : wr.cell? ⟨b,off + k * 8 + 4,none⟩ = some (.int .i64 ai):=(hbel.cell (p:=⟨b,off + k * 8 + 4,none⟩) hblt).trans (hcell 4 _ rfl)
   have q5 : wr.cell? ⟨b,off + k * 8 + 5,none⟩ = some (.int .i64 ii):=(hbel.cell (p:=⟨b,off + k * 8 + 5,none⟩) hblt).trans (hcell 5 _ rfl)
   have q6 : wr.cell? ⟨b,off + k * 8 + 6,none⟩ = some (.int .i64 v):=(hbel.cell (p:=⟨b,off + k * 8 + 6,none⟩) hblt).trans (hcell 6 _ rfl)
   have q7 : wr.cell? ⟨b,off + k * 8 + 7,none⟩ = some (.int .i64 vn):=(hbel.cell (p:=⟨b,off + k * 8 + 7,none⟩) hblt).trans (hcell 7 _ rfl)
   have i0 : (0 : Int) ≤ (k : Int):=by omega
   have i1 : (k : Int) < (m : Int):=by omega
   clear hcell hbel hQ
   go_wp2_with fail
   refine (HX.out wr R.out.two).mono ?_
   rintro e_ w3 ⟨⟨b',rfl⟩,okh',okm',hR3,_⟩
   have R3:=Lib.hid (R.out.act hR3)
   clear hR3 q0 q1 q2 q3 q4 q5 q6 q7
   go_wp2_with fail
   go_roundg (gk - 1)
   case measure => have:=HN.out; omega
   case rel => exact ⟨k + 1,by norm_cast,hlt,Lib.hid (by have:=HN.out; omega),Lib.hid ⟨_,_,_,R3.out⟩⟩
  ·obtain ⟨okh,okm,L,hQ⟩:=HQ.out
   have R:=Lib.hid hQ
   obtain ⟨W3,hW3⟩ : ∃ W_,W_ = wr:=⟨_,rfl⟩
   rw [← hW3] at R ⊢
   have HB3 : Hid (Below w.heap.size w W3):=Lib.hid (HB2.out.trans (R.out.bel.mono (by have:=HN1.out; omega)))
   have X3 : Hid (W3.heap[w.heap.size]? = some (.cells #[.slice At ns.length ct,.int .i64 root] 24 (0,0))):=Lib.hid ((R.out.bel.block _ HN1.out).trans X2.out)
   have HZ3 : Hid (w.heap.size < W3.heap.size):=Lib.hid (blk_lt X3.out)
   clear hW3 hQ HQ HB2 X2
   go_wp2_with fail
   go_loopg [12,13] (nl.length + 1) (fun kq v12 v13 W => ∃ i : Nat,v13 = .int .i64 i ∧ i ≤ nl.length ∧ Hid (i + kq = nl.length + 1) ∧ Hid (Kd.R kNV 52 W W3.heap.size (fun _ => True) v12 (nl.take i)) ∧ Hid (Below W3.heap.size W3 W))
   case atStart => exact ⟨0,rfl,Nat.zero_le _,Lib.hid (by omega),Lib.hid (by rw [List.take_zero]; exact Kd.R_nil _ _ _ _ _),Lib.hid (Below.refl _ _)⟩
   case round =>
    obtain ⟨i,rfl,hi,HN2,HR,HB⟩:=hrel
    by_cases hlt2 : i < nl.length
    ·obtain ⟨adN,eN,y0,y1,y2⟩:=nv_at (Kd.C_below HNV.out (zAd HB3.out HB.out)) i hlt2
     have htk:=List.take_succ_eq_append_getElem hlt2
     have hpl : (nl.take i).length ≤ 30:=by have:=HL1.out; rw [List.length_take]; omega
     obtain ⟨x,hx⟩ : ∃ x,x = nl[i]:=⟨_,rfl⟩
     rw [← hx] at y0 y1 y2 htk
     obtain ⟨tx,v1,v2⟩:=x
     dsimp only at y0 y1 y2
     have HXN : Hid (nl[i] = (tx,v1,v2)):=Lib.hid hx.symm
     obtain ⟨pl,hp⟩ : ∃ pl,pl = nl.take i:=⟨_,rfl⟩
     rw [← hp] at HR htk hpl
     have HTK:=Lib.hid htk
     have HPL:=Lib.hid hpl
     cases eN
     have i0 : (0 : Int) ≤ (i : Int):=by omega
     have i1 : (i : Int) < (nl.length : Int):=by omega
     clear hx hp htk hpl
     by_cases h100 : (100 : Int) < tx.size
     ·go_wp2_with fail
      go_ret
      exact ⟨rfl,HB3.out.trans (HB.out.mono (by have:=HZ3.out; omega))⟩
     have HZ : Hid (W3.heap.size ≤ wr.heap.size):=Lib.hid HB.out.size
     have Y0:=Lib.hid y0
     have Y1:=Lib.hid y1
     have Y2:=Lib.hid y2
     go_wp2_with fail
     refine start_ (n:=16) (S:=fun w' => w'.cell? (adN.add (i * 3)) = some (.string tx) ∧ w'.cell? ⟨(adN.add (i * 3)).block,(adN.add (i * 3)).off + 1,none⟩ = some (.int .i64 v1) ∧ w'.cell? ⟨(adN.add (i * 3)).block,(adN.add (i * 3)).off + 2,none⟩ = some (.int .i64 v2)) (ds:=[]) #[false,false,false,false,false,false,false,false,false,false,false,false,false,false,false,false] (by kernel_rfl) rfl rfl ⟨zAg y0,zAg y1,zAg y2⟩ (fun hHeld => ?_)
     refine pu_ 0 69 ?_
     refine pu_ 1 70 ?_
     refine pu_ 2 71 ?_
     refine pu_ 3 72 ?_
     refine pu_ 4 73 ?_
     refine pu_ 6 75 ?_
     refine pu_ 7 76 ?_
     refine pu_ 8 77 ?_
     refine pu_ 9 78 ?_
     refine ta_ 5 74 hHeld ?_
     refine ta_ 10 79 hHeld ?_
     refine on_ 11 (some 80) (fun K hK => ?_)
     refine gs_ Tryz.func7 #[.agg #[.int .i64 v1,.int .i64 v2]] ?_
     with_reducible refine (zAG.calls v1 v2 v1 v2 _ rfl).mono ?_
     rintro e_ wA ⟨rfl,hb_⟩
     refine ⟨_,rfl,?_⟩
     have HBA:=Lib.hid (zAd (zAk (Below.refl wr.heap.size wr)) hb_)
     clear hb_
     refine hK.out _ _ ⟨zAb HBA.out Y0.out,zAb HBA.out Y1.out,zAb HBA.out Y2.out⟩ (fun hHeld => ?_)
     clear hK K
     refine no_ ?_
     refine pu_ 12 81 ?_
     refine on_ 13 (some 82) (fun K hK => ?_)
     refine value_ (w1:=wA.alloc (.cells #[.string tx,.int .i64 v1,.int .i64 v2] 52)) (v:=.slice (some ⟨wA.heap.size,0,none⟩) 1 1) (by rfl) rfl ?_ ?_
     ·first | (go_simp; done) | (go_simp; rfl)
     refine hK.out _ _ ⟨zAb (zAa HBA.out _) Y0.out,zAb (zAa HBA.out _) Y1.out,zAb (zAa HBA.out _) Y2.out⟩ (fun hHeld => ?_)
     clear hK K
     refine no_ ?_
     refine on_ 14 (some 83) (fun K hK => ?_)
     refine Kd.zBT kNV (w0:=wA) W3.heap.size (by rfl) (.tmp 69) (.tmp 82) 46 52 (.agg #[.string ⟨#[]⟩,.int .i64 0,.int .i64 0]) 32 (by rfl) undRN infoRN rfl (by decide) (by omega) u12 pl ((tx,v1,v2) : NV) [.string tx,.int .i64 v1,.int .i64 v2] (fun _ => True) (fun _ => False) (by rfl) (by rfl) (kNV_mkM _ _ _ ((tx,v1,v2) : NV)) (fun _ hk => hk.elim) (fun _ _ => trivial) (Kd.R_below HR.out HBA.out) (Below.refl _ _) (Nat.le_trans HZ.out HBA.out.size) (by have:=HPL.out; omega) ?_
     intro v9 w9 ho_ hb_ hg_ hat_
     have HO:=Lib.hid ho_
     have HB9:=Lib.hid hb_
     have NB : Hid (Below W3.heap.size W3 w9):=Lib.hid ((zAd HB.out HBA.out).trans hb_)
     have NC : Hid (Below w.heap.size w w9):=Lib.hid (HB3.out.trans (NB.out.mono (by have:=HZ3.out; omega)))
     obtain ⟨adM,eM,g0,g1,g2⟩:=nv_at (Kd.C_below HNV.out NC.out) i hlt2
     cases eM
     have hxn : nl[i] = (tx,v1,v2):=HXN.out
     rw [hxn] at g0 g1 g2
     clear ho_ hb_ hg_ hat_
     refine hK.out _ _ ⟨g0,g1,g2⟩ (fun hHeld => ?_)
     clear hK K
     refine no_ ?_
     refine pu_ 15 12 ?_
     refine done_ (by kernel_rfl) ?_
     go_wp2_with fail
     go_roundg (gk - 1)
     case measure => have:=HN2.out; omega
     case rel => exact ⟨i + 1,by norm_cast,hlt2,Lib.hid (by have:=HN2.out; omega),Lib.hid (by rw [HTK.out]; exact HO.out),NB⟩
    ·obtain rfl : i = nl.length:=by omega
     rw [List.take_length] at HR
     obtain ⟨Am,cm,hv12,hcm_,hM_⟩:=Kd.R_reads HR.out
     subst hv12
     have hbw : Below w.heap.size w wr:=HB3.out.trans (HB.out.mono (by have:=HZ3.out; omega))
     have HV:=Lib.hid (fun q : Int => both_is At ct ns root HS1.out An cn Am cm nl n Bm okh okm L wr (Kd.C_below HC.out hbw) hct (HE.out.below hbw HE.out.six) (Kd.C_below HNV.out hbw) hcn hM_ hcm_ (by have:=HL1.out; omega) (R.out.two.hh.below HB.out) (R.out.two.hm.below HB.out) R.out.two.ch q)
     have X4:=Lib.hid (zAe X3.out HB.out)
     have HBW:=Lib.hid hbw
     obtain ⟨W4,hW4⟩ : ∃ W_,W_ = wr:=⟨_,rfl⟩
     rw [← hW4] at HV X4 HBW ⊢
     have hns:=HS2.out
     clear hW4 hbw hM_ hcm_ HR HB HRD R X3 HB3 HZ3
     go_wp2_with fail
     go_loopg [14] (ns.length + 3) (fun kq v14 W => ∃ i : Nat,v14 = .int .i64 ((i : Int) - 1) ∧ i ≤ ns.length + 2 ∧ Hid (i + kq = ns.length + 3) ∧ Hid (Below W4.heap.size W4 W))
     case atStart => exact ⟨0,rfl,Nat.zero_le _,Lib.hid (by omega),Lib.hid (Below.refl _ _)⟩
     case round =>
      obtain ⟨i,rfl,hi2,HN3,HBZ⟩:=hrel
      have X5:=Lib.hid (zAe X4.out HBZ.out)
      have c0:=bc_ X5.out 0
      have c1:=bc_ X5.out 1
      obtain ⟨q,hq⟩ : ∃ q,q = (i : Int) - 1:=⟨_,rfl⟩
      rw [← hq]
      have HQI:=Lib.hid hq
      by_cases hlt3 : q ≤ (ns.length : Int)
      ·obtain ⟨⟨va,vb,vc⟩,hv1,hv2⟩:=HV.out q
       have HV1:=Lib.hid (hv1 wr HBZ.out)
       have HV2:=Lib.hid (fun (W : World) (hb : Below wr.heap.size wr W) => hv2 W (zAd HBZ.out hb))
       have hq1 : -1 ≤ q:=by omega
       have hw1:=i64_id (q + 1) (by omega) (by omega)
       clear hv1 hv2 hq
       dsimp only at HV1 HV2
       go_wp2_with fail
       refine HV1.out.mono ?_
       rintro e_ W5 ⟨rfl,hb_⟩
       have HB5:=Lib.hid hb_
       have X6:=Lib.hid (zAe X5.out hb_)
       clear hb_ c0 c1
       have N0:=Lib.hid (blk_new W5 (.cells #[.int .i64 va,.int .i64 vb] 43))
       have HB6:=Lib.hid (zAa (Below.refl W5.heap.size W5) (.cells #[.int .i64 va,.int .i64 vb] 43))
       obtain ⟨W6,hW6⟩ : ∃ W_,W_ = W5.alloc (.cells #[.int .i64 va,.int .i64 vb] 43):=⟨_,rfl⟩
       rw [← hW6] at N0 HB6
       have X7:=Lib.hid (zAe X6.out HB6.out)
       have c0:=bc_ X7.out 0
       have c1:=bc_ X7.out 1
       have HW6:=Lib.hid hW6
       rw [hW6] at c0 c1
       clear hW6
       go_wp2_with fail
       rw [← HW6.out]
       obtain ⟨ga,hga⟩ : ∃ g,g = W5.heap.size:=⟨_,rfl⟩
       rw [← hga] at N0 ⊢
       clear hga c0 c1
       refine (HV2.out W6 (zAd HB5.out HB6.out)).mono ?_
       rintro e_ W7 ⟨rfl,hb_⟩
       have HB7:=Lib.hid (zAd (zAd HB5.out HB6.out) hb_)
       have N7:=Lib.hid (zAe N0.out hb_)
       clear hb_
       go_wp2_with fail
       have M0:=Lib.hid (blk_new W7 (.cells #[.int .i64 va,.int .i64 vb] 49))
       have HB8:=Lib.hid (zAd HB7.out (zAa (Below.refl W7.heap.size W7) (.cells #[.int .i64 va,.int .i64 vb] 49)))
       have N8:=Lib.hid (zAj N7.out (.cells #[.int .i64 va,.int .i64 vb] 49))
       obtain ⟨W8,hW8⟩ : ∃ W_,W_ = W7.alloc (.cells #[.int .i64 va,.int .i64 vb] 49):=⟨_,rfl⟩
       rw [← hW8] at M0 HB8 N8 ⊢
       obtain ⟨gb,hgb⟩ : ∃ g,g = W7.heap.size:=⟨_,rfl⟩
       rw [← hgb] at M0 ⊢
       clear hgb hW8
       have a0:=bc_ N8.out 0
       have a1:=bc_ N8.out 1
       have b0:=bc_ M0.out 0
       have b1:=bc_ M0.out 1
       refine start_ (n:=9) (S:=fun w' => w'.cell? ⟨ga,0,none⟩ = some (.int .i64 va) ∧ w'.cell? ⟨ga,1,none⟩ = some (.int .i64 vb) ∧ w'.cell? ⟨gb,0,none⟩ = some (.int .i64 va) ∧ w'.cell? ⟨gb,1,none⟩ = some (.int .i64 vb)) (ds:=[]) #[false,false,false,false,false,false,false,false,false] (by kernel_rfl) rfl rfl ⟨zAg a0,zAg a1,zAg b0,zAg b1⟩ (fun hHeld => ?_)
       refine ta_ 0 107 hHeld ?_
       refine ta_ 2 109 hHeld ?_
       refine on_ 1 (some 108) (fun K hK => ?_)
       refine gs_ Tryz.func7 #[.agg #[.int .i64 va,.int .i64 vb]] ?_
       with_reducible refine (zAG.calls va vb va vb _ rfl).mono ?_
       rintro e_ wA ⟨rfl,hb_⟩
       refine ⟨_,rfl,?_⟩
       have HBA:=Lib.hid (zAd (zAk (Below.refl W8.heap.size W8)) hb_)
       clear hb_
       refine hK.out _ _ ⟨zAb HBA.out ((zAh N8.out 0).trans rfl),zAb HBA.out ((zAh N8.out 1).trans rfl),zAb HBA.out ((zAh M0.out 0).trans rfl),zAb HBA.out ((zAh M0.out 1).trans rfl)⟩ (fun hHeld => ?_)
       clear hK K
       refine no_ ?_
       refine pu_ 3 110 ?_
       refine pu_ 4 111 ?_
       refine pu_ 5 112 ?_
       refine pu_ 6 113 ?_
       refine pu_ 7 114 ?_
       refine pu_ 8 115 ?_
       refine done_ (by kernel_rfl) ?_
       go_wp2_with fail
       go_roundg (gk - 1)
       case measure => have:=HN3.out; omega
       case rel => exact ⟨i + 1,by rw [HQI.out]; congr 1; push_cast; omega,by have:=HQI.out; omega,Lib.hid (by have:=HN3.out; omega),Lib.hid (zAd HBZ.out (zAd HB8.out HBA.out))⟩
      ·clear hq
       go_wp2_with fail
       go_ret
       exact ⟨rfl,zAd HBW.out HBZ.out⟩
end Go.Proofs.YtkhlfdcjgooogaaGreat.P
namespace Go.Proofs.YtkhlfdcjgooogaaGreat.T
open Go.RowKit Go.ChangeShapes Go.WideShapes Go.ChangeAt Go.Deep Go.Proofs.YtkhlfdcjgooogaaGreatW.PrintWords Go.Proofs.YtkhlfdcjgooogaaGreat.Op Go.Proofs.YtkhlfdcjgooogaaGreat.P
theorem env_shaped {W : World} (hsh : W.ShapedOpen Tryz.prog) : Env W:=by
 have hm:=cell_of_shapedOpen_int (g:=0) (t:=3) (zero:=#[.int .i64 0]) (k:=.i64) hsh (of_decide_eq_true (by kernel_rfl)) (by kernel_rfl) rfl (by kernel_rfl) (by kernel_rfl) Tryz.underlying3
 obtain ⟨m,h⟩:=hm
 exact ⟨⟨m,h⟩,World.block_lt_of_cell? W _ h⟩
theorem cNode : Tryz.prog.cellsOf 66 = 5:=by kernel_rfl
theorem cTree : Tryz.prog.cellsOf 24 = 2:=by kernel_rfl
theorem cInts : Tryz.prog.cellsOf 64 = 1:=by kernel_rfl
theorem cNodes : Tryz.prog.cellsOf 22 = 1:=by kernel_rfl
theorem rdNode : Rd Tryz.prog 66 k66 (fun _ => True):=fun H enc w fuel cs x h => by
 obtain ⟨xs,n,_,_,hlen,hxl,hg⟩:=DataW.trod_struct Tryz.underlying66 h
 rw [cNode] at hlen
 have hs : ∀ j,j < 5 → (xs[j]?).isSome = true:=fun j hj => by
  rw [List.getElem?_eq_getElem (by rw [hxl]; exact hj)]; rfl
 obtain ⟨a0,h0,g0⟩:=Rd.field (Rd.int Tryz.underlying3) cI _ (hs 0 (by decide)) (hg 0 _ rfl)
 obtain ⟨a1,h1,g1⟩:=Rd.field (Rd.int Tryz.underlying3) cI _ (hs 1 (by decide)) (hg 1 _ rfl)
 obtain ⟨a2,h2,g2⟩:=Rd.field (Rd.int Tryz.underlying3) cI _ (hs 2 (by decide)) (hg 2 _ rfl)
 obtain ⟨a3,h3,g3⟩:=Rd.field (Rd.string Tryz.underlying9) cS _ (hs 3 (by decide)) (hg 3 _ rfl)
 obtain ⟨a4,h4,g4⟩:=Rd.field (Rd.slice Tryz.underlying64 cI (Rd.int Tryz.underlying3)) cInts _ (hs 4 (by decide)) (hg 4 _ rfl)
 exact ⟨⟨a0,a1,a2,a3,a4⟩,pairK 0 h0 (pairK 1 h1 (pairK 2 h2 (pairK 3 h3 (lastK 4 hlen h4)))),trivial⟩
theorem rdTree (H : Type) (enc : TypeId × Value → H) (w : World) (fuel : Nat) (cs : List Value) (x : DataW H × List MemPlace) (h : DataW.trod enc Tryz.prog w 0 (fun _ => true) true fuel 24 cs = some x) : ∃ a : S24,k24.K w a cs ∧ True:=by
 obtain ⟨xs,n,_,hx,hlen,hxl,hg⟩:=DataW.trod_struct Tryz.underlying24 h
 rw [cTree] at hlen
 have hs : ∀ j,j < 2 → (xs[j]?).isSome = true:=fun j hj => by
  rw [List.getElem?_eq_getElem (by rw [hxl]; exact hj)]; rfl
 obtain ⟨a0,h0,g0⟩:=Rd.field (Rd.slice Tryz.underlying22 cNode rdNode) cNodes _ (hs 0 (by decide)) (hg 0 _ rfl)
 obtain ⟨a1,h1,g1⟩:=Rd.field (Rd.int Tryz.underlying3) cI _ (hs 1 (by decide)) (hg 1 _ rfl)
 exact ⟨⟨a0,a1⟩,pairK 0 h0 (lastK 1 hlen h1),trivial⟩
end Go.Proofs.YtkhlfdcjgooogaaGreat.T
