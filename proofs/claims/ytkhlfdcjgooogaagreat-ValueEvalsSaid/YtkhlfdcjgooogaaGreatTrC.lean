import Derived.Test.YtkhlfdcjgooogaaGreatWMore
import Derived.Test.YtkhlfdcjgooogaaGreatPf103
set_option maxRecDepth 100000
set_option maxHeartbeats 16000000
set_option linter.unusedVariables false
set_option linter.unusedSimpArgs false
set_option linter.unusedSectionVars false
namespace Go.Proofs.YtkhlfdcjgooogaaGreat.P
open Go.RowKit Go.Proofs.YtkhlfdcjgooogaaGreatW.PrintWords Go.Proofs.YtkhlfdcjgooogaaGreatW.PrintLast Go.Proofs.YtkhlfdcjgooogaaGreatW.PrintMore
def runF (p : Int → Bool) : Nat → List Int → Nat
 | _,[] => 0
 | 0,_ :: _ => 0
 | m + 1,c :: l => if p c = true then runF p m l + 1 else 0
theorem zCM (p : Int → Bool) (m : Nat) (c : Int) (l : List Int) (h : p c = true) : runF p (m + 1) (c :: l) = runF p m l + 1:=by rw [runF,if_pos h]
theorem runF_no (p : Int → Bool) (m : Nat) (c : Int) (l : List Int) (h : p c = false) : runF p m (c :: l) = 0:=by
 cases m with
 | zero => rfl
 | succ m => rw [runF,if_neg (by rw [h]; decide)]
theorem zCp (p : Int → Bool) (l : List Int) : runF p 0 l = 0:=by cases l <;> rfl
theorem runF_le (p : Int → Bool) : ∀ (l : List Int) (m : Nat),runF p m l ≤ l.length
 | [],m => by cases m <;> exact Nat.le_refl _
 | c :: l,0 => Nat.zero_le _
 | c :: l,m + 1 => by
  rw [runF]
  split
  ·have:=runF_le p l m; simp; omega
  ·exact Nat.zero_le _
def kindsOf (nodes : List S66) (kl : List Int) : List Int:=kl.map fun k => (rd_T66 nodes k).f0
theorem zCG (nodes : List S66) (kl : List Int) (i : Nat) (h : i < kl.length) : (kindsOf nodes kl).drop i = (rd_T66 nodes kl[i]).f0 :: (kindsOf nodes kl).drop (i + 1):=by
 have h2 : i < (kindsOf nodes kl).length:=by simpa [kindsOf] using h
 rw [List.drop_eq_getElem_cons h2]
 congr 1
 simp [kindsOf]
theorem zDc (nodes : List S66) (kl : List Int) (i : Nat) (h : kl.length ≤ i) : (kindsOf nodes kl).drop i = []:=by
 rw [List.drop_eq_nil_iff]; simpa [kindsOf] using h
theorem is_calls (kind x : Int) (b : Nat) (w : World) (h : w.cell? ⟨b,0,none⟩ = some (.int .i64 kind)) :
  Calls Tryz.prog 100 #[.int .i64 x,.pointer (some ⟨b,0,none⟩)] w fun e w' => e = .returned (.bool (x == kind)) ∧ ∃ m,w' = w.drewN m:=by
 go_enter Tryz.func100,Tryz.ntmps100
 go_wp2_with fail
 go_ret
 exact ⟨rfl,0,rfl⟩
theorem is_new (kind : Int) (w : World) : Calls Tryz.prog 99 #[.int .i64 kind] w fun e w' => e = .returned (.func (.func 100) #[] #[.pointer (some ⟨w.heap.size,0,none⟩)]) ∧ w' = w.alloc (.cells #[.int .i64 kind] 3):=by
 have hmf:=@hmf_ Tryz.prog
 go_enter Tryz.func99,Tryz.ntmps99
 go_wp2_with fail
 go_ret
 exact ⟨rfl,rfl⟩
theorem end_is (gi gn i : Nat) (Ak : Option Addr) (n ck : Nat) (w : World) (hI : w.cell? ⟨gi,0,none⟩ = some (.int .i64 i)) (hN : w.cell? ⟨gn,4,none⟩ = some (.slice Ak n ck)) :
  Calls Tryz.prog 101 #[.pointer (some ⟨gi,0,none⟩),.pointer (some ⟨gn,0,none⟩)] w fun e w' => e = .returned (.bool ((i : Int) == (n : Int))) ∧ w' = w:=by
 go_enter Tryz.func101,Tryz.ntmps101
 go_wp2_with fail
 go_ret
 exact ⟨rfl,rfl⟩
theorem ret_sub (i i0 : Nat) (h : i0 ≤ i) (w18 : IntKind.i64.wrap ((i : Int) - (i0 : Int)) = (i : Int) - i0) : Ending.returned (.int .i64 ((i : Int) - (i0 : Int))) = Ending.returned (.int .i64 ((i - i0 : Nat) : Int)):=by
 rw [Int.ofNat_sub h]
structure TakeW (w : World) (gi gn gt : Nat) (k n at_ : Int) (tx : ByteArray) (Ak : Option Addr) (ck : Nat) (kl : List Int) (At : Option Addr) (ct : Nat) (nodes : List S66) (root : Int) : Prop where
 hN : w.heap[gn]? = some (.cells #[.int .i64 k,.int .i64 n,.int .i64 at_,.string tx,.slice Ak kl.length ck] 66 (0,0))
 hT : w.heap[gt]? = some (.cells #[.slice At nodes.length ct,.int .i64 root] 24 (0,0))
 gn_ : gn ≠ gi
 gt_ : gt ≠ gi
 hck : kl.length ≤ ck
 hct : nodes.length ≤ ct
 hkl : kl.length ≤ 4000
 hnl : nodes.length ≤ 4000
 hK : ∀ W',KeepBut w W' gi none → Kd.C (Kd.int .i64) W' Ak kl.length kl
 hTr : ∀ W',KeepBut w W' gi none → Kd.C k66 W' At nodes.length nodes
 hin : ∀ x ∈ kl,0 ≤ x ∧ x < nodes.length
theorem take_43 (b : Nat) (most : Int) (h0 : 0 ≤ most) (hm : most ≤ 4000) (p : Int → Bool) (gi gn gt i0 : Nat) (k n at_ : Int) (tx : ByteArray) (Ak : Option Addr) (ck : Nat) (kl : List Int) (At : Option Addr) (ct : Nat) (nodes : List S66) (root : Int) (base : Nat) (w0 w : World)
  (hTW : TakeW w gi gn gt k n at_ tx Ak ck kl At ct nodes root) (hI : w.heap[gi]? = some (.cells #[.int .i64 i0] 3 (0,0))) (hi0 : i0 ≤ kl.length)
  (hS : ∀ (W' : World) (x : Int),KeepBut w W' gi none → Calls Tryz.prog 100 #[.int .i64 x,.pointer (some ⟨b,0,none⟩)] W' fun e w'' => e = .returned (.bool (p x)) ∧ ∃ m,w'' = W'.drewN m)
  (hB : Below base w0 w) (hbg : base ≤ gi) :
  Calls Tryz.prog 98 #[.int .i64 most,.func (.func 100) #[] #[.pointer (some ⟨b,0,none⟩)],.pointer (some ⟨gi,0,none⟩),.pointer (some ⟨gn,0,none⟩),.pointer (some ⟨gt,0,none⟩)] w fun e W =>
   e = .returned (.int .i64 (runF p most.toNat ((kindsOf nodes kl).drop i0) : Nat)) ∧ KeepBut w W gi none ∧ Below base w0 W ∧ W.heap[gi]? = some (.cells #[.int .i64 (i0 + runF p most.toNat ((kindsOf nodes kl).drop i0) : Nat)] 3 (0,0)):=by
 have HTW:=Lib.hid hTW
 have HS:=Lib.hid hS
 have HI0:=Lib.hid hI
 have HB0:=Lib.hid hB
 obtain ⟨R,hR⟩ : ∃ R,R = runF p most.toNat ((kindsOf nodes kl).drop i0):=⟨_,rfl⟩
 rw [← hR]
 have HR:=Lib.hid hR
 have hRl : R ≤ kl.length - i0:=by
  rw [hR]
  refine Nat.le_trans (runF_le _ _ _) ?_
  simp [kindsOf]
 have cI0:=bc_ hI 0
 have hkl:=hTW.hkl
 have hnl:=hTW.hnl
 clear hTW hS hI hB hR
 go_enter Tryz.func98,Tryz.ntmps98
 go_wp2_with fail
 go_loopg [] (kl.length + 1 - i0) (fun kq W => ∃ i : Nat,i0 ≤ i ∧ i ≤ kl.length ∧ Hid (i + kq = kl.length + 1) ∧ Hid ((i - i0 : Nat) ≤ most.toNat) ∧ Hid (R = (i - i0) + runF p (most.toNat - (i - i0)) ((kindsOf nodes kl).drop i)) ∧ Hid (KeepBut w W gi none) ∧ Hid (Below base w0 W) ∧ Hid (W.heap[gi]? = some (.cells #[.int .i64 i] 3 (0,0))))
 case atStart => exact ⟨i0,Nat.le_refl _,hi0,Lib.hid (by omega),Lib.hid (by omega),Lib.hid (by rw [Nat.sub_self,Nat.sub_zero,Nat.zero_add]; exact HR.out),Lib.hid (KeepBut.refl _ _ _),HB0,HI0⟩
 case round =>
  obtain ⟨i,h1,h2,HN,HM,HRR,HKB,HBB,HI⟩:=hrel
  clear cI0
  have cI:=bc_ HI.out 0
  have fI:=zAc HI.out 0
  have HBN:=Lib.hid (KeepBut.blk HKB.out HTW.out.hN HTW.out.gn_ (by simp))
  have HBT:=Lib.hid (KeepBut.blk HKB.out HTW.out.hT HTW.out.gt_ (by simp))
  have cN:=bc_ HBN.out 4
  have cT:=bc_ HBT.out 0
  have w18 : IntKind.i64.wrap ((i : Int) - (i0 : Int)) = (i : Int) - i0:=by rw [i64_w]; unfold wrap64; omega
  by_cases hlt : i < kl.length
  ·have q1 : decide ((i : Int) < (kl.length : Int)) = true:=decide_eq_true (by omega)
   have q1n : decide (i < kl.length) = true:=decide_eq_true hlt
   by_cases hmo : (i : Int) - i0 < most
   ·have q2 : decide ((i : Int) - (i0 : Int) < most) = true:=decide_eq_true hmo
    have hkin:=HTW.out.hin kl[i] (List.getElem_mem hlt)
    obtain ⟨adK,eK,z0⟩:=Kd.at_int (HTW.out.hK wr HKB.out) (i : Int) (by omega) (by omega)
    have hq : rd kl (i : Int) = kl[i]:=by simp [rd,hlt]
    rw [hq,Int.toNat_natCast] at z0
    clear hq
    have hkd:=zCG nodes kl i hlt
    obtain ⟨kv,hkv⟩ : ∃ kv,kv = kl[i]:=⟨_,rfl⟩
    rw [← hkv] at hkin z0 hkd
    clear hkv
    obtain ⟨adT,A4,c4,eT,y0,_,_,_,_,_,_⟩:=at_T66 (HTW.out.hTr wr HKB.out) kv hkin.1 hkin.2
    obtain ⟨kd,hkk⟩ : ∃ kd,kd = (rd_T66 nodes kv).f0:=⟨_,rfl⟩
    rw [← hkk] at y0 hkd
    clear hkk
    cases eK
    cases eT
    have k1 : 0 ≤ kv:=hkin.1
    have k2 : kv < (nodes.length : Int):=hkin.2
    have k1e:=eq_true k1
    have k2e:=eq_true k2
    have HKD:=Lib.hid hkd
    clear hkin hkd
    cases hp : p kd with
    | true =>
     have HP:=Lib.hid hp
     have HC:=Lib.hid (fun (W' : World) h => (HS.out W' kd h))
     have hst : runF p (most.toNat - (i - i0)) ((kindsOf nodes kl).drop i) = runF p (most.toNat - (i + 1 - i0)) ((kindsOf nodes kl).drop (i + 1)) + 1:=by
      rw [HKD.out,show most.toNat - (i - i0) = (most.toNat - (i + 1 - i0)) + 1 by omega,zCM _ _ _ _ hp]
     have HST:=Lib.hid hst
     clear hp hst
     go_wp2_with fail
     go_quiet ((refine (HC.out _ (HKB.out.trans (KeepBut.of_below (zAf (Below.refl _ _) _) gi none) (.inl rfl))).mono ?_; rintro e_ w_ ⟨rfl,m_,rfl⟩; rw [HP.out]; exact ⟨rfl,_,World.drewN_drewN _ _ _⟩))
     go_wp2_with fail
     go_roundg (gk - 1)
     case measure => have:=HN.out; omega
     case rel => exact ⟨i + 1,by omega,hlt,Lib.hid (by have:=HN.out; omega),Lib.hid (by omega),Lib.hid (by have h:=HRR.out; rw [HST.out] at h; omega),Lib.hid (KeepBut.set_ (HKB.out.trans (KeepBut.of_below (zAf (Below.refl _ _) _) gi none) (.inl rfl)) 0 _),Lib.hid (Below.setCell (zAf HBB.out _) (p:=⟨gi,0,none⟩) hbg _),Lib.hid (blk_put (zAo HI.out _) 0 _ (by norm_cast))⟩
    | false =>
     have HP:=Lib.hid hp
     have HC:=Lib.hid (fun (W' : World) h => (HS.out W' kd h))
     have HF : Hid (R = i - i0):=Lib.hid (by rw [HRR.out,HKD.out,runF_no _ _ _ _ hp]; rfl)
     clear hp
     go_wp2_with fail
     go_quiet ((refine (HC.out _ (HKB.out.trans (KeepBut.of_below (zAf (Below.refl _ _) _) gi none) (.inl rfl))).mono ?_; rintro e_ w_ ⟨rfl,m_,rfl⟩; rw [HP.out]; exact ⟨rfl,_,World.drewN_drewN _ _ _⟩))
     go_wp2_with fail
     go_ret
     refine ⟨by rw [HF.out]; exact ret_sub i i0 h1 w18,HKB.out.trans (KeepBut.of_below (zAf (Below.refl _ _) _) gi none) (.inl rfl),zAf HBB.out _,?_⟩
     rw [show i0 + R = i by have:=HF.out; omega]
     exact HI.out
   ·have q2 : decide ((i : Int) - (i0 : Int) < most) = false:=decide_eq_false hmo
    have HF : Hid (R = i - i0):=Lib.hid (by rw [HRR.out,show most.toNat - (i - i0) = 0 by omega,zCp]; rfl)
    go_wp2_with fail
    go_quiet (fail)
    go_wp2_with fail
    go_ret
    refine ⟨by rw [HF.out]; exact ret_sub i i0 h1 w18,HKB.out.trans (KeepBut.of_below (zAf (Below.refl _ _) _) gi none) (.inl rfl),zAf HBB.out _,?_⟩
    rw [show i0 + R = i by have:=HF.out; omega]
    exact HI.out
  ·have q1 : decide ((i : Int) < (kl.length : Int)) = false:=decide_eq_false (by omega)
   have q1n : decide (i < kl.length) = false:=decide_eq_false hlt
   have HF : Hid (R = i - i0):=Lib.hid (by rw [HRR.out,zDc _ _ _ (by omega)]; cases (most.toNat - (i - i0)) <;> rfl)
   go_wp2_with fail
   go_quiet (fail)
   go_wp2_with fail
   go_ret
   refine ⟨by rw [HF.out]; exact ret_sub i i0 h1 w18,HKB.out.trans (KeepBut.of_below (zAf (Below.refl _ _) _) gi none) (.inl rfl),zAf HBB.out _,?_⟩
   rw [show i0 + R = i by have:=HF.out; omega]
   exact HI.out
theorem take_45 (most : Int) (h0 : 0 ≤ most) (hm : most ≤ 4000) (p : Int → Bool) (gi gn gt i0 : Nat) (k n at_ : Int) (tx : ByteArray) (Ak : Option Addr) (ck : Nat) (kl : List Int) (At : Option Addr) (ct : Nat) (nodes : List S66) (root : Int) (base : Nat) (w0 w : World)
  (hTW : TakeW w gi gn gt k n at_ tx Ak ck kl At ct nodes root) (hI : w.heap[gi]? = some (.cells #[.int .i64 i0] 3 (0,0))) (hi0 : i0 ≤ kl.length)
  (hS : ∀ (W' : World) (x : Int),KeepBut w W' gi none → Calls Tryz.prog 102 #[.int .i64 x] W' fun e w'' => e = .returned (.bool (p x)) ∧ ∃ m,w'' = W'.drewN m)
  (hB : Below base w0 w) (hbg : base ≤ gi) :
  Calls Tryz.prog 98 #[.int .i64 most,.func (.func 102) #[] #[],.pointer (some ⟨gi,0,none⟩),.pointer (some ⟨gn,0,none⟩),.pointer (some ⟨gt,0,none⟩)] w fun e W =>
   e = .returned (.int .i64 (runF p most.toNat ((kindsOf nodes kl).drop i0) : Nat)) ∧ KeepBut w W gi none ∧ Below base w0 W ∧ W.heap[gi]? = some (.cells #[.int .i64 (i0 + runF p most.toNat ((kindsOf nodes kl).drop i0) : Nat)] 3 (0,0)):=by
 have HTW:=Lib.hid hTW
 have HS:=Lib.hid hS
 have HI0:=Lib.hid hI
 have HB0:=Lib.hid hB
 obtain ⟨R,hR⟩ : ∃ R,R = runF p most.toNat ((kindsOf nodes kl).drop i0):=⟨_,rfl⟩
 rw [← hR]
 have HR:=Lib.hid hR
 have hRl : R ≤ kl.length - i0:=by
  rw [hR]
  refine Nat.le_trans (runF_le _ _ _) ?_
  simp [kindsOf]
 have cI0:=bc_ hI 0
 have hkl:=hTW.hkl
 have hnl:=hTW.hnl
 clear hTW hS hI hB hR
 go_enter Tryz.func98,Tryz.ntmps98
 go_wp2_with fail
 go_loopg [] (kl.length + 1 - i0) (fun kq W => ∃ i : Nat,i0 ≤ i ∧ i ≤ kl.length ∧ Hid (i + kq = kl.length + 1) ∧ Hid ((i - i0 : Nat) ≤ most.toNat) ∧ Hid (R = (i - i0) + runF p (most.toNat - (i - i0)) ((kindsOf nodes kl).drop i)) ∧ Hid (KeepBut w W gi none) ∧ Hid (Below base w0 W) ∧ Hid (W.heap[gi]? = some (.cells #[.int .i64 i] 3 (0,0))))
 case atStart => exact ⟨i0,Nat.le_refl _,hi0,Lib.hid (by omega),Lib.hid (by omega),Lib.hid (by rw [Nat.sub_self,Nat.sub_zero,Nat.zero_add]; exact HR.out),Lib.hid (KeepBut.refl _ _ _),HB0,HI0⟩
 case round =>
  obtain ⟨i,h1,h2,HN,HM,HRR,HKB,HBB,HI⟩:=hrel
  clear cI0
  have cI:=bc_ HI.out 0
  have fI:=zAc HI.out 0
  have HBN:=Lib.hid (KeepBut.blk HKB.out HTW.out.hN HTW.out.gn_ (by simp))
  have HBT:=Lib.hid (KeepBut.blk HKB.out HTW.out.hT HTW.out.gt_ (by simp))
  have cN:=bc_ HBN.out 4
  have cT:=bc_ HBT.out 0
  have w18 : IntKind.i64.wrap ((i : Int) - (i0 : Int)) = (i : Int) - i0:=by rw [i64_w]; unfold wrap64; omega
  by_cases hlt : i < kl.length
  ·have q1 : decide ((i : Int) < (kl.length : Int)) = true:=decide_eq_true (by omega)
   have q1n : decide (i < kl.length) = true:=decide_eq_true hlt
   by_cases hmo : (i : Int) - i0 < most
   ·have q2 : decide ((i : Int) - (i0 : Int) < most) = true:=decide_eq_true hmo
    have hkin:=HTW.out.hin kl[i] (List.getElem_mem hlt)
    obtain ⟨adK,eK,z0⟩:=Kd.at_int (HTW.out.hK wr HKB.out) (i : Int) (by omega) (by omega)
    have hq : rd kl (i : Int) = kl[i]:=by simp [rd,hlt]
    rw [hq,Int.toNat_natCast] at z0
    clear hq
    have hkd:=zCG nodes kl i hlt
    obtain ⟨kv,hkv⟩ : ∃ kv,kv = kl[i]:=⟨_,rfl⟩
    rw [← hkv] at hkin z0 hkd
    clear hkv
    obtain ⟨adT,A4,c4,eT,y0,_,_,_,_,_,_⟩:=at_T66 (HTW.out.hTr wr HKB.out) kv hkin.1 hkin.2
    obtain ⟨kd,hkk⟩ : ∃ kd,kd = (rd_T66 nodes kv).f0:=⟨_,rfl⟩
    rw [← hkk] at y0 hkd
    clear hkk
    cases eK
    cases eT
    have k1 : 0 ≤ kv:=hkin.1
    have k2 : kv < (nodes.length : Int):=hkin.2
    have k1e:=eq_true k1
    have k2e:=eq_true k2
    have HKD:=Lib.hid hkd
    clear hkin hkd
    cases hp : p kd with
    | true =>
     have HP:=Lib.hid hp
     have HC:=Lib.hid (fun (W' : World) h => (HS.out W' kd h))
     have hst : runF p (most.toNat - (i - i0)) ((kindsOf nodes kl).drop i) = runF p (most.toNat - (i + 1 - i0)) ((kindsOf nodes kl).drop (i + 1)) + 1:=by
      rw [HKD.out,show most.toNat - (i - i0) = (most.toNat - (i + 1 - i0)) + 1 by omega,zCM _ _ _ _ hp]
     have HST:=Lib.hid hst
     clear hp hst
     go_wp2_with fail
     go_quiet ((refine (HC.out _ (HKB.out.trans (KeepBut.of_below (zAf (Below.refl _ _) _) gi none) (.inl rfl))).mono ?_; rintro e_ w_ ⟨rfl,m_,rfl⟩; rw [HP.out]; exact ⟨rfl,_,World.drewN_drewN _ _ _⟩))
     go_wp2_with fail
     go_roundg (gk - 1)
     case measure => have:=HN.out; omega
     case rel => exact ⟨i + 1,by omega,hlt,Lib.hid (by have:=HN.out; omega),Lib.hid (by omega),Lib.hid (by have h:=HRR.out; rw [HST.out] at h; omega),Lib.hid (KeepBut.set_ (HKB.out.trans (KeepBut.of_below (zAf (Below.refl _ _) _) gi none) (.inl rfl)) 0 _),Lib.hid (Below.setCell (zAf HBB.out _) (p:=⟨gi,0,none⟩) hbg _),Lib.hid (blk_put (zAo HI.out _) 0 _ (by norm_cast))⟩
    | false =>
     have HP:=Lib.hid hp
     have HC:=Lib.hid (fun (W' : World) h => (HS.out W' kd h))
     have HF : Hid (R = i - i0):=Lib.hid (by rw [HRR.out,HKD.out,runF_no _ _ _ _ hp]; rfl)
     clear hp
     go_wp2_with fail
     go_quiet ((refine (HC.out _ (HKB.out.trans (KeepBut.of_below (zAf (Below.refl _ _) _) gi none) (.inl rfl))).mono ?_; rintro e_ w_ ⟨rfl,m_,rfl⟩; rw [HP.out]; exact ⟨rfl,_,World.drewN_drewN _ _ _⟩))
     go_wp2_with fail
     go_ret
     refine ⟨by rw [HF.out]; exact ret_sub i i0 h1 w18,HKB.out.trans (KeepBut.of_below (zAf (Below.refl _ _) _) gi none) (.inl rfl),zAf HBB.out _,?_⟩
     rw [show i0 + R = i by have:=HF.out; omega]
     exact HI.out
   ·have q2 : decide ((i : Int) - (i0 : Int) < most) = false:=decide_eq_false hmo
    have HF : Hid (R = i - i0):=Lib.hid (by rw [HRR.out,show most.toNat - (i - i0) = 0 by omega,zCp]; rfl)
    go_wp2_with fail
    go_quiet (fail)
    go_wp2_with fail
    go_ret
    refine ⟨by rw [HF.out]; exact ret_sub i i0 h1 w18,HKB.out.trans (KeepBut.of_below (zAf (Below.refl _ _) _) gi none) (.inl rfl),zAf HBB.out _,?_⟩
    rw [show i0 + R = i by have:=HF.out; omega]
    exact HI.out
  ·have q1 : decide ((i : Int) < (kl.length : Int)) = false:=decide_eq_false (by omega)
   have q1n : decide (i < kl.length) = false:=decide_eq_false hlt
   have HF : Hid (R = i - i0):=Lib.hid (by rw [HRR.out,zDc _ _ _ (by omega)]; cases (most.toNat - (i - i0)) <;> rfl)
   go_wp2_with fail
   go_quiet (fail)
   go_wp2_with fail
   go_ret
   refine ⟨by rw [HF.out]; exact ret_sub i i0 h1 w18,HKB.out.trans (KeepBut.of_below (zAf (Below.refl _ _) _) gi none) (.inl rfl),zAf HBB.out _,?_⟩
   rw [show i0 + R = i by have:=HF.out; omega]
   exact HI.out
theorem take_46 (most : Int) (h0 : 0 ≤ most) (hm : most ≤ 4000) (p : Int → Bool) (gi gn gt i0 : Nat) (k n at_ : Int) (tx : ByteArray) (Ak : Option Addr) (ck : Nat) (kl : List Int) (At : Option Addr) (ct : Nat) (nodes : List S66) (root : Int) (base : Nat) (w0 w : World)
  (hTW : TakeW w gi gn gt k n at_ tx Ak ck kl At ct nodes root) (hI : w.heap[gi]? = some (.cells #[.int .i64 i0] 3 (0,0))) (hi0 : i0 ≤ kl.length)
  (hS : ∀ (W' : World) (x : Int),KeepBut w W' gi none → Calls Tryz.prog 103 #[.int .i64 x] W' fun e w'' => e = .returned (.bool (p x)) ∧ ∃ m,w'' = W'.drewN m)
  (hB : Below base w0 w) (hbg : base ≤ gi) :
  Calls Tryz.prog 98 #[.int .i64 most,.func (.func 103) #[] #[],.pointer (some ⟨gi,0,none⟩),.pointer (some ⟨gn,0,none⟩),.pointer (some ⟨gt,0,none⟩)] w fun e W =>
   e = .returned (.int .i64 (runF p most.toNat ((kindsOf nodes kl).drop i0) : Nat)) ∧ KeepBut w W gi none ∧ Below base w0 W ∧ W.heap[gi]? = some (.cells #[.int .i64 (i0 + runF p most.toNat ((kindsOf nodes kl).drop i0) : Nat)] 3 (0,0)):=by
 have HTW:=Lib.hid hTW
 have HS:=Lib.hid hS
 have HI0:=Lib.hid hI
 have HB0:=Lib.hid hB
 obtain ⟨R,hR⟩ : ∃ R,R = runF p most.toNat ((kindsOf nodes kl).drop i0):=⟨_,rfl⟩
 rw [← hR]
 have HR:=Lib.hid hR
 have hRl : R ≤ kl.length - i0:=by
  rw [hR]
  refine Nat.le_trans (runF_le _ _ _) ?_
  simp [kindsOf]
 have cI0:=bc_ hI 0
 have hkl:=hTW.hkl
 have hnl:=hTW.hnl
 clear hTW hS hI hB hR
 go_enter Tryz.func98,Tryz.ntmps98
 go_wp2_with fail
 go_loopg [] (kl.length + 1 - i0) (fun kq W => ∃ i : Nat,i0 ≤ i ∧ i ≤ kl.length ∧ Hid (i + kq = kl.length + 1) ∧ Hid ((i - i0 : Nat) ≤ most.toNat) ∧ Hid (R = (i - i0) + runF p (most.toNat - (i - i0)) ((kindsOf nodes kl).drop i)) ∧ Hid (KeepBut w W gi none) ∧ Hid (Below base w0 W) ∧ Hid (W.heap[gi]? = some (.cells #[.int .i64 i] 3 (0,0))))
 case atStart => exact ⟨i0,Nat.le_refl _,hi0,Lib.hid (by omega),Lib.hid (by omega),Lib.hid (by rw [Nat.sub_self,Nat.sub_zero,Nat.zero_add]; exact HR.out),Lib.hid (KeepBut.refl _ _ _),HB0,HI0⟩
 case round =>
  obtain ⟨i,h1,h2,HN,HM,HRR,HKB,HBB,HI⟩:=hrel
  clear cI0
  have cI:=bc_ HI.out 0
  have fI:=zAc HI.out 0
  have HBN:=Lib.hid (KeepBut.blk HKB.out HTW.out.hN HTW.out.gn_ (by simp))
  have HBT:=Lib.hid (KeepBut.blk HKB.out HTW.out.hT HTW.out.gt_ (by simp))
  have cN:=bc_ HBN.out 4
  have cT:=bc_ HBT.out 0
  have w18 : IntKind.i64.wrap ((i : Int) - (i0 : Int)) = (i : Int) - i0:=by rw [i64_w]; unfold wrap64; omega
  by_cases hlt : i < kl.length
  ·have q1 : decide ((i : Int) < (kl.length : Int)) = true:=decide_eq_true (by omega)
   have q1n : decide (i < kl.length) = true:=decide_eq_true hlt
   by_cases hmo : (i : Int) - i0 < most
   ·have q2 : decide ((i : Int) - (i0 : Int) < most) = true:=decide_eq_true hmo
    have hkin:=HTW.out.hin kl[i] (List.getElem_mem hlt)
    obtain ⟨adK,eK,z0⟩:=Kd.at_int (HTW.out.hK wr HKB.out) (i : Int) (by omega) (by omega)
    have hq : rd kl (i : Int) = kl[i]:=by simp [rd,hlt]
    rw [hq,Int.toNat_natCast] at z0
    clear hq
    have hkd:=zCG nodes kl i hlt
    obtain ⟨kv,hkv⟩ : ∃ kv,kv = kl[i]:=⟨_,rfl⟩
    rw [← hkv] at hkin z0 hkd
    clear hkv
    obtain ⟨adT,A4,c4,eT,y0,_,_,_,_,_,_⟩:=at_T66 (HTW.out.hTr wr HKB.out) kv hkin.1 hkin.2
    obtain ⟨kd,hkk⟩ : ∃ kd,kd = (rd_T66 nodes kv).f0:=⟨_,rfl⟩
    rw [← hkk] at y0 hkd
    clear hkk
    cases eK
    cases eT
    have k1 : 0 ≤ kv:=hkin.1
    have k2 : kv < (nodes.length : Int):=hkin.2
    have k1e:=eq_true k1
    have k2e:=eq_true k2
    have HKD:=Lib.hid hkd
    clear hkin hkd
    cases hp : p kd with
    | true =>
     have HP:=Lib.hid hp
     have HC:=Lib.hid (fun (W' : World) h => (HS.out W' kd h))
     have hst : runF p (most.toNat - (i - i0)) ((kindsOf nodes kl).drop i) = runF p (most.toNat - (i + 1 - i0)) ((kindsOf nodes kl).drop (i + 1)) + 1:=by
      rw [HKD.out,show most.toNat - (i - i0) = (most.toNat - (i + 1 - i0)) + 1 by omega,zCM _ _ _ _ hp]
     have HST:=Lib.hid hst
     clear hp hst
     go_wp2_with fail
     go_quiet ((refine (HC.out _ (HKB.out.trans (KeepBut.of_below (zAf (Below.refl _ _) _) gi none) (.inl rfl))).mono ?_; rintro e_ w_ ⟨rfl,m_,rfl⟩; rw [HP.out]; exact ⟨rfl,_,World.drewN_drewN _ _ _⟩))
     go_wp2_with fail
     go_roundg (gk - 1)
     case measure => have:=HN.out; omega
     case rel => exact ⟨i + 1,by omega,hlt,Lib.hid (by have:=HN.out; omega),Lib.hid (by omega),Lib.hid (by have h:=HRR.out; rw [HST.out] at h; omega),Lib.hid (KeepBut.set_ (HKB.out.trans (KeepBut.of_below (zAf (Below.refl _ _) _) gi none) (.inl rfl)) 0 _),Lib.hid (Below.setCell (zAf HBB.out _) (p:=⟨gi,0,none⟩) hbg _),Lib.hid (blk_put (zAo HI.out _) 0 _ (by norm_cast))⟩
    | false =>
     have HP:=Lib.hid hp
     have HC:=Lib.hid (fun (W' : World) h => (HS.out W' kd h))
     have HF : Hid (R = i - i0):=Lib.hid (by rw [HRR.out,HKD.out,runF_no _ _ _ _ hp]; rfl)
     clear hp
     go_wp2_with fail
     go_quiet ((refine (HC.out _ (HKB.out.trans (KeepBut.of_below (zAf (Below.refl _ _) _) gi none) (.inl rfl))).mono ?_; rintro e_ w_ ⟨rfl,m_,rfl⟩; rw [HP.out]; exact ⟨rfl,_,World.drewN_drewN _ _ _⟩))
     go_wp2_with fail
     go_ret
     refine ⟨by rw [HF.out]; exact ret_sub i i0 h1 w18,HKB.out.trans (KeepBut.of_below (zAf (Below.refl _ _) _) gi none) (.inl rfl),zAf HBB.out _,?_⟩
     rw [show i0 + R = i by have:=HF.out; omega]
     exact HI.out
   ·have q2 : decide ((i : Int) - (i0 : Int) < most) = false:=decide_eq_false hmo
    have HF : Hid (R = i - i0):=Lib.hid (by rw [HRR.out,show most.toNat - (i - i0) = 0 by omega,zCp]; rfl)
    go_wp2_with fail
    go_quiet (fail)
    go_wp2_with fail
    go_ret
    refine ⟨by rw [HF.out]; exact ret_sub i i0 h1 w18,HKB.out.trans (KeepBut.of_below (zAf (Below.refl _ _) _) gi none) (.inl rfl),zAf HBB.out _,?_⟩
    rw [show i0 + R = i by have:=HF.out; omega]
    exact HI.out
  ·have q1 : decide ((i : Int) < (kl.length : Int)) = false:=decide_eq_false (by omega)
   have q1n : decide (i < kl.length) = false:=decide_eq_false hlt
   have HF : Hid (R = i - i0):=Lib.hid (by rw [HRR.out,zDc _ _ _ (by omega)]; cases (most.toNat - (i - i0)) <;> rfl)
   go_wp2_with fail
   go_quiet (fail)
   go_wp2_with fail
   go_ret
   refine ⟨by rw [HF.out]; exact ret_sub i i0 h1 w18,HKB.out.trans (KeepBut.of_below (zAf (Below.refl _ _) _) gi none) (.inl rfl),zAf HBB.out _,?_⟩
   rw [show i0 + R = i by have:=HF.out; omega]
   exact HI.out
def stB (x : Int) : Bool:=decide (7 ≤ x) && decide (x ≤ 17)
def exB (x : Int) : Bool:=decide (20 ≤ x) && decide (x ≤ 27)
theorem st_f (x : Int) : zBf.f x = some (stB x):=by
 unfold zBf.f stB
 by_cases h : 7 ≤ x
 ·rw [if_pos h,decide_eq_true h,Bool.true_and]
 ·rw [if_neg h,decide_eq_false h,Bool.false_and]
theorem ex_f (x : Int) : zBe.f x = some (exB x):=by
 unfold zBe.f exB
 by_cases h : 20 ≤ x
 ·rw [if_pos h,decide_eq_true h,Bool.true_and]
 ·rw [if_neg h,decide_eq_false h,Bool.false_and]
theorem TakeW.step {w W : World} {gi gn gt : Nat} {k n at_ : Int} {tx : ByteArray} {Ak : Option Addr} {ck : Nat} {kl : List Int} {At : Option Addr} {ct : Nat} {nodes : List S66} {root : Int}
  (h : TakeW w gi gn gt k n at_ tx Ak ck kl At ct nodes root) (hk : KeepBut w W gi none) : TakeW W gi gn gt k n at_ tx Ak ck kl At ct nodes root :=
 ⟨KeepBut.blk hk h.hN h.gn_ (by simp),KeepBut.blk hk h.hT h.gt_ (by simp),h.gn_,h.gt_,h.hck,h.hct,h.hkl,h.hnl,fun W' h' => h.hK W' (hk.trans h' (.inl rfl)),fun W' h' => h.hTr W' (hk.trans h' (.inl rfl)),h.hin⟩
def KS (w : World) (k n at_ : Int) (tx : ByteArray) (Ak : Option Addr) (ck : Nat) (kl : List Int) (At : Option Addr) (ct : Nat) (nodes : List S66) (root : Int) (W : World) (i : Nat) : Prop :=
 TakeW W (w.heap.size + 1 + 1) (w.heap.size + 1) w.heap.size k n at_ tx Ak ck kl At ct nodes root ∧ W.heap[w.heap.size + 1 + 1]? = some (.cells #[.int .i64 i] 3 (0,0)) ∧ Below w.heap.size w W ∧ i ≤ kl.length
theorem tr_new1 (X : World) (o o' : Obj) : ((X.alloc o).alloc o').heap[X.heap.size + 1]? = some o':=by
 have h:=heap_alloc_new (X.alloc o) o'
 rwa [World.size_alloc] at h
theorem heap24 : Kd.Heap k66:=Kd.heap_iso _ (Kd.zCv (Kd.zCo .i64) (Kd.zCv (Kd.zCo .i64) (Kd.zCv (Kd.zCo .i64) (Kd.zCv Kd.heap_string (Kd.heap_slice 3 (Kd.zCo .i64))))))
section
variable {w W : World} {k n at_ : Int} {tx : ByteArray} {Ak : Option Addr} {ck : Nat} {kl : List Int} {At : Option Addr} {ct : Nat} {nodes : List S66} {root : Int}
theorem KS.start (hK : Kd.C (Kd.int .i64) w Ak kl.length kl) (hT : Kd.C k66 w At nodes.length nodes) (hck : kl.length ≤ ck) (hct : nodes.length ≤ ct) (hkl : kl.length ≤ 4000) (hnl : nodes.length ≤ 4000) (hin : ∀ x ∈ kl,0 ≤ x ∧ x < nodes.length) :
  KS w k n at_ tx Ak ck kl At ct nodes root (((w.alloc (.cells #[.slice At nodes.length ct,.int .i64 root] 24)).alloc (.cells #[.int .i64 k,.int .i64 n,.int .i64 at_,.string tx,.slice Ak kl.length ck] 66)).alloc (.cells #[.int .i64 0] 3)) 0:=by
 have hb : Below w.heap.size w (((w.alloc (.cells #[.slice At nodes.length ct,.int .i64 root] 24)).alloc (.cells #[.int .i64 k,.int .i64 n,.int .i64 at_,.string tx,.slice Ak kl.length ck] 66)).alloc (.cells #[.int .i64 0] 3)):=zAa (zAa (zAa (Below.refl _ _) _) _) _
 refine ⟨⟨zAj (tr_new1 w _ _) _,zAj (zAj (heap_alloc_new w _) _) _,by omega,by omega,hck,hct,hkl,hnl,Kd.C_foot_came (Kd.zCo .i64) hK hb (by omega),Kd.C_foot_came heap24 hT hb (by omega),hin⟩,?_,hb,Nat.zero_le _⟩
 have:=heap_alloc_new ((w.alloc (.cells #[.slice At nodes.length ct,.int .i64 root] 24)).alloc (.cells #[.int .i64 k,.int .i64 n,.int .i64 at_,.string tx,.slice Ak kl.length ck] 66)) (.cells #[.int .i64 0] 3)
 rw [World.size_alloc,World.size_alloc] at this
 exact this
theorem take_st45 (i : Nat) (most : Int) (h0 : 0 ≤ most) (hm : most ≤ 4000) (h : KS w k n at_ tx Ak ck kl At ct nodes root W i) :
  Calls Tryz.prog 98 #[.int .i64 most,.func (.func 102) #[] #[],.pointer (some ⟨w.heap.size + 1 + 1,0,none⟩),.pointer (some ⟨w.heap.size + 1,0,none⟩),.pointer (some ⟨w.heap.size,0,none⟩)] W fun e W2 =>
   ∃ R : Nat,e = .returned (.int .i64 R) ∧ Hid (R = runF stB most.toNat ((kindsOf nodes kl).drop i)) ∧ Hid (KS w k n at_ tx Ak ck kl At ct nodes root W2 (i + R)):=by
 obtain ⟨h1,h2,h3,h4⟩:=h
 refine (take_45 most h0 hm stB _ _ _ i k n at_ tx Ak ck kl At ct nodes root w.heap.size w W h1 h2 h4 (fun W' x _ => (zBf.calls x (stB x) W' (st_f x)).mono fun e w' ⟨he,m,hd⟩ => ⟨he,m,hd⟩) h3 (by omega)).mono ?_
 rintro e W2 ⟨rfl,hk,hb,hi⟩
 refine ⟨_,rfl,Lib.hid rfl,Lib.hid ⟨h1.step hk,hi,hb,?_⟩⟩
 have:=runF_le stB ((kindsOf nodes kl).drop i) most.toNat
 simp [kindsOf] at this
 simp [kindsOf]
 omega
theorem zBb (i : Nat) (most : Int) (h0 : 0 ≤ most) (hm : most ≤ 4000) (h : KS w k n at_ tx Ak ck kl At ct nodes root W i) :
  Calls Tryz.prog 98 #[.int .i64 most,.func (.func 103) #[] #[],.pointer (some ⟨w.heap.size + 1 + 1,0,none⟩),.pointer (some ⟨w.heap.size + 1,0,none⟩),.pointer (some ⟨w.heap.size,0,none⟩)] W fun e W2 =>
   ∃ R : Nat,e = .returned (.int .i64 R) ∧ Hid (R = runF exB most.toNat ((kindsOf nodes kl).drop i)) ∧ Hid (KS w k n at_ tx Ak ck kl At ct nodes root W2 (i + R)):=by
 obtain ⟨h1,h2,h3,h4⟩:=h
 refine (take_46 most h0 hm exB _ _ _ i k n at_ tx Ak ck kl At ct nodes root w.heap.size w W h1 h2 h4 (fun W' x _ => (zBe.calls x (exB x) W' (ex_f x)).mono fun e w' ⟨he,m,hd⟩ => ⟨he,m,hd⟩) h3 (by omega)).mono ?_
 rintro e W2 ⟨rfl,hk,hb,hi⟩
 refine ⟨_,rfl,Lib.hid rfl,Lib.hid ⟨h1.step hk,hi,hb,?_⟩⟩
 have:=runF_le exB ((kindsOf nodes kl).drop i) most.toNat
 simp [kindsOf] at this
 simp [kindsOf]
 omega
theorem take_is (i : Nat) (kind most : Int) (h0 : 0 ≤ most) (hm : most ≤ 4000) (h : KS w k n at_ tx Ak ck kl At ct nodes root W i) :
  Calls Tryz.prog 98 #[.int .i64 most,.func (.func 100) #[] #[.pointer (some ⟨W.heap.size,0,none⟩)],.pointer (some ⟨w.heap.size + 1 + 1,0,none⟩),.pointer (some ⟨w.heap.size + 1,0,none⟩),.pointer (some ⟨w.heap.size,0,none⟩)] (W.alloc (.cells #[.int .i64 kind] 3)) fun e W2 =>
   ∃ R : Nat,e = .returned (.int .i64 R) ∧ Hid (R = runF (fun x => x == kind) most.toNat ((kindsOf nodes kl).drop i)) ∧ Hid (KS w k n at_ tx Ak ck kl At ct nodes root W2 (i + R)):=by
 obtain ⟨h1,h2,h3,h4⟩:=h
 have hlt:=blk_lt h2
 have hk0 : KeepBut W (W.alloc (.cells #[.int .i64 kind] 3)) (w.heap.size + 1 + 1) none:=KeepBut.of_below (zAa (Below.refl _ _) _) _ _
 refine (take_43 W.heap.size most h0 hm (fun x => x == kind) _ _ _ i k n at_ tx Ak ck kl At ct nodes root w.heap.size w _ (h1.step hk0) (zAj h2 _) h4 (fun W' x hk => is_calls kind x W.heap.size W' ((zAh (KeepBut.blk hk (heap_alloc_new W _) (by omega) (by simp)) 0).trans rfl)) (zAa h3 _) (by omega)).mono ?_
 rintro e W2 ⟨rfl,hk,hb,hi⟩
 refine ⟨_,rfl,Lib.hid rfl,Lib.hid ⟨(h1.step hk0).step hk,hi,hb,?_⟩⟩
 have:=runF_le (fun x => x == kind) ((kindsOf nodes kl).drop i) most.toNat
 simp [kindsOf] at this
 simp [kindsOf]
 omega
theorem end_st (i : Nat) (h : KS w k n at_ tx Ak ck kl At ct nodes root W i) :
  Calls Tryz.prog 101 #[.pointer (some ⟨w.heap.size + 1 + 1,0,none⟩),.pointer (some ⟨w.heap.size + 1,0,none⟩)] W fun e w' => e = .returned (.bool ((i : Int) == (kl.length : Int))) ∧ w' = W:=by
 obtain ⟨h1,h2,h3,h4⟩:=h
 exact end_is _ _ i Ak kl.length ck W ((zAh h2 0).trans rfl) ((zAh h1.hN 4).trans rfl)
end
end Go.Proofs.YtkhlfdcjgooogaaGreat.P
