import Derived.Test.YtkhlfdcjgooogaaGreatTrD
import Derived.Test.YtkhlfdcjgooogaaGreatTrE
import Derived.Test.YtkhlfdcjgooogaaGreatPf60
import Derived.Test.YtkhlfdcjgooogaaGreatWMore
import Derived.Test.YtkhlfdcjgooogaaGreatPf103
import Derived.Lib.Hide
import Derived.RangeFuncBox
import Derived.RangeFuncFrom
import Derived.RangeFuncLeaves
import Derived.Shelf.Abstract
import Derived.OwnWalkIn
import Derived.TacticsInMore
import Derived.LoopNIn
import Derived.LoopIn
import Derived.Outline
set_option maxRecDepth 100000
set_option maxHeartbeats 16000000
set_option linter.unusedVariables false
set_option linter.unusedSimpArgs false
set_option linter.unusedSectionVars false
namespace Go.Proofs.YtkhlfdcjgooogaaGreat.P
open Go.RowKit Go.Proofs.YtkhlfdcjgooogaaGreatW.PrintWords Go.Proofs.YtkhlfdcjgooogaaGreatW.PrintLast Go.Proofs.YtkhlfdcjgooogaaGreatW.PrintMore
def rn (p : Int → Bool) (m : Nat) (L : List Int) (i : Nat) : Nat:=runF p m (L.drop i)
def fin (L : List Int) (i : Nat) : Bool:=(i : Int) == (L.length : Int)
def kidsB_1 (L : List Int) : Bool:=fin L (0 + rn (fun x => x == 2) 4000 L (0) + rn (fun x => x == 3) 4000 L (0 + rn (fun x => x == 2) 4000 L (0)))
def kidsB_3 (L : List Int) : Bool:=(((rn (fun x => x == 6) 1 L (0 + rn (fun x => x == 4) 4000 L (0) + rn (fun x => x == 5) 4000 L (0 + rn (fun x => x == 4) 4000 L (0))) : Nat) : Int) == 1) && fin L (0 + rn (fun x => x == 4) 4000 L (0) + rn (fun x => x == 5) 4000 L (0 + rn (fun x => x == 4) 4000 L (0)) + rn (fun x => x == 6) 1 L (0 + rn (fun x => x == 4) 4000 L (0) + rn (fun x => x == 5) 4000 L (0 + rn (fun x => x == 4) 4000 L (0))))
def kidsB_6 (L : List Int) : Bool:=fin L (0 + rn stB 4000 L (0))
def kidsB_7 (L : List Int) : Bool:=(((rn exB 1 L (0) : Nat) : Int) == 1) && fin L (0 + rn exB 1 L (0))
def zCP (L : List Int) : Bool:=(((rn exB 1 L (0) : Nat) : Int) == 1) && fin L (0 + rn exB 1 L (0))
def zCX (L : List Int) : Bool:=(((rn exB 1 L (0) : Nat) : Int) == 1) && fin L (0 + rn exB 1 L (0))
def zCO (L : List Int) : Bool:=(((rn exB 1 L (0) : Nat) : Int) == 1) && fin L (0 + rn exB 1 L (0))
def zCR (L : List Int) : Bool:=(((rn exB 1 L (0) : Nat) : Int) == 1) && fin L (0 + rn exB 1 L (0))
def kidsB_8 (L : List Int) : Bool:=(((rn exB 2 L (0) : Nat) : Int) == 2) && fin L (0 + rn exB 2 L (0))
def zCU (L : List Int) : Bool:=(((rn exB 2 L (0) : Nat) : Int) == 2) && fin L (0 + rn exB 2 L (0))
def kidsB_9 (L : List Int) : Bool:=(((rn (fun x => x == 18) 1 L (0) : Nat) : Int) == 1) && fin L (0 + rn (fun x => x == 18) 1 L (0))
def zBh (L : List Int) : Bool:=(((rn (fun x => x == 18) 1 L (0) : Nat) : Int) == 1) && (((rn exB 1 L (0 + rn (fun x => x == 18) 1 L (0)) : Nat) : Int) == 1) && fin L (0 + rn (fun x => x == 18) 1 L (0) + rn exB 1 L (0 + rn (fun x => x == 18) 1 L (0)))
def zBj (L : List Int) : Bool:=(((rn exB 1 L (0) : Nat) : Int) == 1) && (((rn (fun x => x == 6) 2 L (0 + rn exB 1 L (0)) : Nat) : Int) == 2) && fin L (0 + rn exB 1 L (0) + rn (fun x => x == 6) 2 L (0 + rn exB 1 L (0)))
def zBs (L : List Int) : Bool:=(((rn exB 1 L (0) : Nat) : Int) == 1) && (((rn (fun x => x == 6) 1 L (0 + rn exB 1 L (0)) : Nat) : Int) == 1) && fin L (0 + rn exB 1 L (0) + rn (fun x => x == 6) 1 L (0 + rn exB 1 L (0)))
def zBr (L : List Int) : Bool:=(((rn (fun x => x == 19) 1 L (0) : Nat) : Int) == 1) && fin L (0 + rn (fun x => x == 19) 1 L (0) + rn exB 4000 L (0 + rn (fun x => x == 19) 1 L (0)))
def zBz (L : List Int) : Bool:=fin L (0 + rn exB 1 L (0))
def zBI (L : List Int) : Bool:=(((rn (fun x => x == 6) 2 L (0) : Nat) : Int) == 2) && fin L (0 + rn (fun x => x == 6) 2 L (0))
def kidsB_2 (L : List Int) : Bool:=fin L (0)
def kidsB_4 (L : List Int) : Bool:=fin L (0)
def kidsB_5 (L : List Int) : Bool:=fin L (0)
def kidsB_18 (L : List Int) : Bool:=fin L (0)
def kidsB_19 (L : List Int) : Bool:=fin L (0)
def kidsB_20 (L : List Int) : Bool:=fin L (0)
def kidsB_21 (L : List Int) : Bool:=fin L (0)
def kidsB_22 (L : List Int) : Bool:=fin L (0)
def kidsB_24 (L : List Int) : Bool:=fin L (0)
def kidsB_25 (L : List Int) : Bool:=fin L (0)
def kidsB (k : Int) (L : List Int) : Bool :=
 if k = 1 then kidsB_1 L
 else if k = 3 then kidsB_3 L
 else if k = 6 then kidsB_6 L
 else if k = 7 then kidsB_7 L
 else if k = 15 then zCP L
 else if k = 17 then zCX L
 else if k = 23 then zCO L
 else if k = 26 then zCR L
 else if k = 8 then kidsB_8 L
 else if k = 27 then zCU L
 else if k = 9 then kidsB_9 L
 else if k = 10 then zBh L
 else if k = 11 then zBj L
 else if k = 12 then zBs L
 else if k = 13 then zBr L
 else if k = 14 then zBz L
 else if k = 16 then zBI L
 else if k = 2 then kidsB_2 L
 else if k = 4 then kidsB_4 L
 else if k = 5 then kidsB_5 L
 else if k = 18 then kidsB_18 L
 else if k = 19 then kidsB_19 L
 else if k = 20 then kidsB_20 L
 else if k = 21 then kidsB_21 L
 else if k = 22 then kidsB_22 L
 else if k = 24 then kidsB_24 L
 else if k = 25 then kidsB_25 L
 else fin L 0
theorem zBg (nodes : List S66) (kl : List Int) : (kindsOf nodes kl).length = kl.length:=by simp [kindsOf]
theorem kids_is (k n at_ : Int) (h1 : 1 ≤ k) (h2 : k ≤ 27) (tx : ByteArray) (Ak : Option Addr) (ck : Nat) (kl : List Int) (At : Option Addr) (ct : Nat) (nodes : List S66) (root : Int) (w : World)
  (hK : Kd.C (Kd.int .i64) w Ak kl.length kl) (hT : Kd.C k66 w At nodes.length nodes) (hck : kl.length ≤ ck) (hct : nodes.length ≤ ct) (hkl : kl.length ≤ 4000) (hnl : nodes.length ≤ 4000) (hin : ∀ x ∈ kl,0 ≤ x ∧ x < nodes.length) :
  Calls Tryz.prog 61 #[.agg #[.slice At nodes.length ct,.int .i64 root],nodeV k n at_ tx Ak kl.length ck] w fun e w' => e = .returned (.bool (kidsB k (kindsOf nodes kl))) ∧ Below w.heap.size w w':=by
 have hl:=zBg nodes kl
 unfold kidsB
 by_cases e1 : k = 1
 ·subst e1
  rw [if_pos rfl,kidsB_1,fin,hl]
  exact kids_1 n at_ tx Ak ck kl At ct nodes root _ rfl _ rfl w hK hT hck hct hkl hnl hin
 rw [if_neg e1]
 by_cases e3 : k = 3
 ·subst e3
  rw [if_pos rfl,kidsB_3,fin,hl]
  exact kids_3 n at_ tx Ak ck kl At ct nodes root _ rfl _ rfl _ rfl w hK hT hck hct hkl hnl hin
 rw [if_neg e3]
 by_cases e6 : k = 6
 ·subst e6
  rw [if_pos rfl,kidsB_6,fin,hl]
  exact kids_6 n at_ tx Ak ck kl At ct nodes root _ rfl w hK hT hck hct hkl hnl hin
 rw [if_neg e6]
 by_cases e7 : k = 7
 ·subst e7
  rw [if_pos rfl,kidsB_7,fin,hl]
  exact kids_7 n at_ tx Ak ck kl At ct nodes root _ rfl w hK hT hck hct hkl hnl hin
 rw [if_neg e7]
 by_cases e15 : k = 15
 ·subst e15
  rw [if_pos rfl,zCP,fin,hl]
  exact kids_15 n at_ tx Ak ck kl At ct nodes root _ rfl w hK hT hck hct hkl hnl hin
 rw [if_neg e15]
 by_cases e17 : k = 17
 ·subst e17
  rw [if_pos rfl,zCX,fin,hl]
  exact kids_17 n at_ tx Ak ck kl At ct nodes root _ rfl w hK hT hck hct hkl hnl hin
 rw [if_neg e17]
 by_cases e23 : k = 23
 ·subst e23
  rw [if_pos rfl,zCO,fin,hl]
  exact kids_23 n at_ tx Ak ck kl At ct nodes root _ rfl w hK hT hck hct hkl hnl hin
 rw [if_neg e23]
 by_cases e26 : k = 26
 ·subst e26
  rw [if_pos rfl,zCR,fin,hl]
  exact kids_26 n at_ tx Ak ck kl At ct nodes root _ rfl w hK hT hck hct hkl hnl hin
 rw [if_neg e26]
 by_cases e8 : k = 8
 ·subst e8
  rw [if_pos rfl,kidsB_8,fin,hl]
  exact kids_8 n at_ tx Ak ck kl At ct nodes root _ rfl w hK hT hck hct hkl hnl hin
 rw [if_neg e8]
 by_cases e27 : k = 27
 ·subst e27
  rw [if_pos rfl,zCU,fin,hl]
  exact kids_27 n at_ tx Ak ck kl At ct nodes root _ rfl w hK hT hck hct hkl hnl hin
 rw [if_neg e27]
 by_cases e9 : k = 9
 ·subst e9
  rw [if_pos rfl,kidsB_9,fin,hl]
  exact kids_9 n at_ tx Ak ck kl At ct nodes root _ rfl w hK hT hck hct hkl hnl hin
 rw [if_neg e9]
 by_cases e10 : k = 10
 ·subst e10
  rw [if_pos rfl,zBh,fin,hl]
  exact kids_10 n at_ tx Ak ck kl At ct nodes root _ rfl _ rfl w hK hT hck hct hkl hnl hin
 rw [if_neg e10]
 by_cases e11 : k = 11
 ·subst e11
  rw [if_pos rfl,zBj,fin,hl]
  exact kids_11 n at_ tx Ak ck kl At ct nodes root _ rfl _ rfl w hK hT hck hct hkl hnl hin
 rw [if_neg e11]
 by_cases e12 : k = 12
 ·subst e12
  rw [if_pos rfl,zBs,fin,hl]
  exact kids_12 n at_ tx Ak ck kl At ct nodes root _ rfl _ rfl w hK hT hck hct hkl hnl hin
 rw [if_neg e12]
 by_cases e13 : k = 13
 ·subst e13
  rw [if_pos rfl,zBr,fin,hl]
  exact kids_13 n at_ tx Ak ck kl At ct nodes root _ rfl _ rfl w hK hT hck hct hkl hnl hin
 rw [if_neg e13]
 by_cases e14 : k = 14
 ·subst e14
  rw [if_pos rfl,zBz,fin,hl]
  exact kids_14 n at_ tx Ak ck kl At ct nodes root _ rfl w hK hT hck hct hkl hnl hin
 rw [if_neg e14]
 by_cases e16 : k = 16
 ·subst e16
  rw [if_pos rfl,zBI,fin,hl]
  exact kids_16 n at_ tx Ak ck kl At ct nodes root _ rfl w hK hT hck hct hkl hnl hin
 rw [if_neg e16]
 by_cases e2 : k = 2
 ·subst e2
  rw [if_pos rfl,kidsB_2,fin,hl]
  exact kids_2 n at_ tx Ak ck kl At ct nodes root w hK hT hck hct hkl hnl hin
 rw [if_neg e2]
 by_cases e4 : k = 4
 ·subst e4
  rw [if_pos rfl,kidsB_4,fin,hl]
  exact kids_4 n at_ tx Ak ck kl At ct nodes root w hK hT hck hct hkl hnl hin
 rw [if_neg e4]
 by_cases e5 : k = 5
 ·subst e5
  rw [if_pos rfl,kidsB_5,fin,hl]
  exact kids_5 n at_ tx Ak ck kl At ct nodes root w hK hT hck hct hkl hnl hin
 rw [if_neg e5]
 by_cases e18 : k = 18
 ·subst e18
  rw [if_pos rfl,kidsB_18,fin,hl]
  exact kids_18 n at_ tx Ak ck kl At ct nodes root w hK hT hck hct hkl hnl hin
 rw [if_neg e18]
 by_cases e19 : k = 19
 ·subst e19
  rw [if_pos rfl,kidsB_19,fin,hl]
  exact kids_19 n at_ tx Ak ck kl At ct nodes root w hK hT hck hct hkl hnl hin
 rw [if_neg e19]
 by_cases e20 : k = 20
 ·subst e20
  rw [if_pos rfl,kidsB_20,fin,hl]
  exact kids_20 n at_ tx Ak ck kl At ct nodes root w hK hT hck hct hkl hnl hin
 rw [if_neg e20]
 by_cases e21 : k = 21
 ·subst e21
  rw [if_pos rfl,kidsB_21,fin,hl]
  exact kids_21 n at_ tx Ak ck kl At ct nodes root w hK hT hck hct hkl hnl hin
 rw [if_neg e21]
 by_cases e22 : k = 22
 ·subst e22
  rw [if_pos rfl,kidsB_22,fin,hl]
  exact kids_22 n at_ tx Ak ck kl At ct nodes root w hK hT hck hct hkl hnl hin
 rw [if_neg e22]
 by_cases e24 : k = 24
 ·subst e24
  rw [if_pos rfl,kidsB_24,fin,hl]
  exact kids_24 n at_ tx Ak ck kl At ct nodes root w hK hT hck hct hkl hnl hin
 rw [if_neg e24]
 by_cases e25 : k = 25
 ·subst e25
  rw [if_pos rfl,kidsB_25,fin,hl]
  exact kids_25 n at_ tx Ak ck kl At ct nodes root w hK hT hck hct hkl hnl hin
 rw [if_neg e25]
 omega
def numB (k n : Int) : Bool :=
 if k = 2 ∨ k = 4 ∨ k = 5 then decide (1 ≤ n) && decide (n ≤ 4)
 else if k = 3 then decide (0 ≤ n) && decide (n ≤ 4)
 else if k = 20 then decide (0 ≤ n)
 else if k = 21 then n == 0 || n == 1
 else n == 0
theorem num_j (k n at_ : Int) (b : Bool) (x : Int) (tx : ByteArray) (l : List Int) : zAH.j0 1 k b x n at_ tx l = some (if b = true then decide (1 ≤ n) && decide (n ≤ 4) else if k = 3 then decide (0 ≤ n) && decide (n ≤ 4) else if k = 20 then decide (0 ≤ n) else if k = 21 then n == 0 || n == 1 else n == 0):=by
 unfold zAH.j0
 cases b
 ·simp only [Bool.false_eq_true,if_false]
  by_cases h3 : k = 3
  ·simp only [h3,if_true]
   by_cases h : n ≥ 0
   ·simp [h]
   ·simp [h]
  ·by_cases h20 : k = 20
   ·simp [h20]
   ·by_cases h21 : k = 21
    ·simp only [h3,h20,h21,if_false,if_true]
     by_cases h : n = 0
     ·simp [h]
     ·simp [h]
    ·simp [h3,h20,h21]
 ·simp only [if_true]
  by_cases h : n ≥ 1
  ·simp [h]
  ·simp [h]
theorem num_f (k n at_ : Int) (tx : ByteArray) (l : List Int) : zAH.f 1 k n at_ tx l = some (numB k n):=by
 unfold zAH.f numB
 rw [num_j,num_j,num_j]
 by_cases h2 : k = 2
 ·simp [h2]
 ·by_cases h4 : k = 4
  ·simp [h4]
  ·by_cases h5 : k = 5
   ·simp [h5]
   ·simp [h2,h4,h5]
def nodeOk (nodes : List S66) (k n : Int) (tx : ByteArray) (kl : List Int) : Bool:=decide (1 ≤ k) && (decide (k ≤ 27) && (textB k tx && (numB k n && kidsB k (kindsOf nodes kl))))
theorem right1_is (g : Nat) (k n at_ : Int) (tx : ByteArray) (Ak : Option Addr) (ck : Nat) (kl : List Int) (At : Option Addr) (ct : Nat) (nodes : List S66) (root : Int) (w : World) (hE : Env w)
  (hT : w.heap[g]? = some (.cells #[.slice At nodes.length ct,.int .i64 root] 24 (0,0)))
  (hK : Kd.C (Kd.int .i64) w Ak kl.length kl) (hC : Kd.C k66 w At nodes.length nodes) (hck : kl.length ≤ ck) (hct : nodes.length ≤ ct) (hkl : kl.length ≤ 4000) (hnl : nodes.length ≤ 4000) (hin : ∀ x ∈ kl,0 ≤ x ∧ x < nodes.length) (hs : tx.size ≤ 140737488351232) :
  Calls Tryz.prog 58 #[nodeV k n at_ tx Ak kl.length ck,.pointer (some ⟨g,0,none⟩)] w fun e w' => e = .returned (.bool (!nodeOk nodes k n tx kl)) ∧ Below w.heap.size w w':=by
 have HE:=Lib.hid hE
 have HT:=Lib.hid hT
 have HK:=Lib.hid hK
 have HC:=Lib.hid hC
 have HIN:=Lib.hid hin
 clear hE hT hK hC hin
 unfold nodeOk nodeV
 by_cases h1 : 1 ≤ k
 ·have d1 : decide (k < 1) = false:=decide_eq_false (by omega)
  by_cases h2 : k ≤ 27
  ·have d2 : decide (27 < k) = false:=decide_eq_false (by omega)
   rw [decide_eq_true h1,decide_eq_true h2,Bool.true_and,Bool.true_and]
   obtain ⟨tb,htb⟩ : ∃ b,b = textB k tx:=⟨_,rfl⟩
   obtain ⟨nb,hnb⟩ : ∃ b,b = numB k n:=⟨_,rfl⟩
   obtain ⟨kb,hkb⟩ : ∃ b,b = kidsB k (kindsOf nodes kl):=⟨_,rfl⟩
   have HTX:=Lib.hid (fun (w : World) hE => text_is k n at_ tx Ak kl.length ck h1 h2 hs w hE)
   have HNX:=Lib.hid (fun (w : World) hr => zAH.calls 1 k n at_ tx Ak ck kl nb w hr hck (by rw [hnb]; exact num_f k n at_ tx kl))
   have HKX:=Lib.hid (fun (w : World) hK hT => kids_is k n at_ h1 h2 tx Ak ck kl At ct nodes root w hK hT hck hct hkl hnl HIN.out)
   rw [← htb] at HTX ⊢
   rw [← hkb] at HKX ⊢
   rw [← hnb]
   clear htb hnb hkb
   unfold nodeV at HTX HKX
   go_enter Tryz.func58,Tryz.ntmps58
   go_wp2_with fail
   have hb0 : Below w.heap.size w (w.alloc (.cells #[.int .i64 k,.int .i64 n,.int .i64 at_,.string tx,.slice Ak kl.length ck] 66)):=zAa (Below.refl _ _) _
   have hbox:=heap_alloc_new w (.cells #[.int .i64 k,.int .i64 n,.int .i64 at_,.string tx,.slice Ak kl.length ck] 66)
   obtain ⟨W1,hW1⟩ : ∃ W_,W_ = w.alloc (.cells #[.int .i64 k,.int .i64 n,.int .i64 at_,.string tx,.slice Ak kl.length ck] 66):=⟨_,rfl⟩
   rw [← hW1] at hb0 hbox ⊢
   have HB0:=Lib.hid hb0
   have HX0:=Lib.hid hbox
   clear hW1 hb0 hbox
   refine (HTX.out W1 (HE.out.below HB0.out HE.out.six)).mono ?_
   rintro e_ W2 ⟨rfl,hb_⟩
   have HB2:=Lib.hid (zAd HB0.out hb_)
   have HX2 : Hid (W2.heap[w.heap.size]? = some (.cells #[.int .i64 k,.int .i64 n,.int .i64 at_,.string tx,.slice Ak kl.length ck] 66 (0,0))):=Lib.hid ((hb_.block _ (blk_lt HX0.out)).trans HX0.out)
   clear hb_
   have c2_0:=bc_ HX2.out 0
   have c2_1:=bc_ HX2.out 1
   have c2_2:=bc_ HX2.out 2
   have c2_3:=bc_ HX2.out 3
   have c2_4:=bc_ HX2.out 4
   have HG2 : Hid (W2.heap[g]? = some (.cells #[.slice At nodes.length ct,.int .i64 root] 24 (0,0))):=Lib.hid ((HB2.out.block _ (blk_lt HT.out)).trans HT.out)
   have e2_0:=bc_ HG2.out 0
   have e2_1:=bc_ HG2.out 1
   cases tb with
   | false =>
    go_wp2_with fail
    go_ret
    exact ⟨by simp,HB2.out⟩
   | true =>
    go_wp2_with fail
    refine (HNX.out W2 (Kd.C_below HK.out HB2.out)).mono ?_
    rintro e_ W3 ⟨rfl,hb_⟩
    clear c2_0 c2_1 c2_2 c2_3 c2_4 e2_0 e2_1
    have HB3:=Lib.hid (zAd HB2.out hb_)
    have HX3 : Hid (W3.heap[w.heap.size]? = some (.cells #[.int .i64 k,.int .i64 n,.int .i64 at_,.string tx,.slice Ak kl.length ck] 66 (0,0))):=Lib.hid ((hb_.block _ (blk_lt HX2.out)).trans HX2.out)
    clear hb_
    have c3_0:=bc_ HX3.out 0
    have c3_1:=bc_ HX3.out 1
    have c3_2:=bc_ HX3.out 2
    have c3_3:=bc_ HX3.out 3
    have c3_4:=bc_ HX3.out 4
    have HG3 : Hid (W3.heap[g]? = some (.cells #[.slice At nodes.length ct,.int .i64 root] 24 (0,0))):=Lib.hid ((HB3.out.block _ (blk_lt HT.out)).trans HT.out)
    have e3_0:=bc_ HG3.out 0
    have e3_1:=bc_ HG3.out 1
    cases nb with
    | false =>
     go_wp2_with fail
     go_ret
     exact ⟨by simp,HB3.out⟩
    | true =>
     go_wp2_with fail
     refine (HKX.out W3 (Kd.C_below HK.out HB3.out) (Kd.C_below HC.out HB3.out)).mono ?_
     rintro e_ W4 ⟨rfl,hb_⟩
     have HB4:=Lib.hid (zAd HB3.out hb_)
     clear hb_
     cases kb with
     | false =>
      go_wp2_with fail
      go_ret
      exact ⟨by simp,HB4.out⟩
     | true =>
      go_wp2_with fail
      go_ret
      exact ⟨by simp,HB4.out⟩
  ·have d2 : decide (27 < k) = true:=decide_eq_true (by omega)
   go_enter Tryz.func58,Tryz.ntmps58
   go_wp2_with fail
   go_ret
   exact ⟨by rw [show decide (k ≤ 27) = false from decide_eq_false (by omega)]; simp,zAa (Below.refl _ _) _⟩
 ·have d1 : decide (k < 1) = true:=decide_eq_true (by omega)
  go_enter Tryz.func58,Tryz.ntmps58
  go_wp2_with fail
  go_ret
  exact ⟨by rw [show decide (1 ≤ k) = false from decide_eq_false (by omega)]; simp,zAa (Below.refl _ _) _⟩
open Go.RowKit Go.Shelf Go.Proofs.YtkhlfdcjgooogaaGreatW.PrintWords Go.Proofs.YtkhlfdcjgooogaaGreatW.PrintLast Go.Proofs.YtkhlfdcjgooogaaGreatW.PrintMore
attribute [local go_sem] Oper.semAt_some
theorem zBF (a : Addr) (n : Nat) : (a.add n).block = a.block:=by unfold Addr.add; split <;> rfl
def revp (zs : List Int) : List (Int × Int):=(List.range zs.length).map fun (j : Nat) => ((zs.length : Int) - 1 - (j : Int),rd zs ((zs.length : Int) - 1 - (j : Int)))
theorem zBS (zs : List Int) : (revp zs).length = zs.length:=by simp [revp]
theorem revp_take_succ (zs : List Int) (j : Nat) (h : j < zs.length) : (revp zs).take (j + 1) = (revp zs).take j ++ [((zs.length : Int) - 1 - j,rd zs ((zs.length : Int) - 1 - j))]:=by
 rw [List.take_succ_eq_append_getElem (by rw [zBS]; exact h)]
 simp [revp]
def KeepT (M : Nat) (T : Nat → Prop) (W W' : World) : Prop:=∀ k,k < M → ¬ T k → W'.heap[k]? = W.heap[k]?
theorem KeepT.refl (M : Nat) (T : Nat → Prop) (W : World) : KeepT M T W W:=fun _ _ _ => rfl
theorem KeepT.trans {M : Nat} {T : Nat → Prop} {A B C : World} (h : KeepT M T A B) (k : KeepT M T B C) : KeepT M T A C:=fun i hi ht => (k i hi ht).trans (h i hi ht)
theorem KeepT.cell {M : Nat} {T : Nat → Prop} {A B : World} (h : KeepT M T A B) {p : Addr} (hp : p.block < M) (ht : ¬ T p.block) : B.cell? p = A.cell? p:=World.cell?_of_block (h _ hp ht)
theorem back1 (F : Fence) (n : Nat) (h50 : F.fn 133) (hro : F.round = none) (hn : 1 ≤ n) (l Bs M cap : Nat) (T : Nat → Prop) (A : Option Addr) (zs : List Int) (hb : Bs < M) (hbT : ¬ T Bs)
  (hA : 0 < zs.length → ∀ ad,A = some ad → ad.block < M ∧ ¬ T ad.block) (J Jx : List (Int × Int) → World → Prop)
  (hY : ∀ pre x W,J pre W → pre.length < zs.length → YieldAt F (n - 1) Tryz.prog l #[.int .i64 x.1,.int .i64 x.2] W fun e W' =>
   (e = .returned (.bool true) ∧ J (pre ++ [x]) W' ∧ KeepT M T W W') ∨ (e = .returned (.bool false) ∧ Jx (pre ++ [x]) W'))
  (W : World) (hBs : W.cell? ⟨Bs,0,none⟩ = some (.slice A zs.length cap)) (hC : Kd.C (Kd.int .i64) W A zs.length zs) (h0 : J [] W) :
  CallsIn F n Tryz.prog 133 #[.func (.yield l) #[] #[],.pointer (some ⟨Bs,0,none⟩)] W fun e W' => (∃ v,e = .returned v) ∧
   ((∃ ys,ys = revp zs ∧ J ys W') ∨ (∃ pre,(∃ k,k ≤ zs.length ∧ pre = (revp zs).take k) ∧ Jx pre W')):=by
 have hbnd : zs.length ≤ 9223372036854775807:=hC.2.1
 have HY:=Lib.hid hY
 have HC:=Aside0.mk hC
 have HA:=Lib.hid hA
 clear hY hC hA
 refine callsIn_of_wp Tryz.func133 rfl h50 ?_ hro
 simp only [Tryz.ntmps133,List.size_toArray,List.length_cons,List.length_nil,Nat.reduceAdd,Nat.reduceSub,Array.replicate_succ,Array.replicate_zero,List.push_toArray,List.append_toArray,List.nil_append,List.cons_append]
 gi_wp2
 gi_loopw [3] (fun v3 wr => ∃ (j : Nat) (i : Int),v3 = .int .i64 i ∧ Hid (i + j + 1 = zs.length) ∧ -1 ≤ i ∧ i < zs.length ∧ Aside0 (J ((revp zs).take j) wr) ∧ Aside0 (KeepT M T W wr)) (fun v3 _ => (intOf v3 + 1).toNat)
 case atStart => exact ⟨0,(zs.length : Int) - 1,by go_num,by simp [Hid],by omega,by omega,⟨by simpa using h0⟩,⟨KeepT.refl _ _ _⟩⟩
 case round =>
  obtain ⟨j,i,rfl,hij,hi1,hi2,HJ,HK⟩:=hrel
  have hBs' : wr.cell? ⟨Bs,0,none⟩ = some (.slice A zs.length cap):=(HK.out.cell (p:=⟨Bs,0,none⟩) hb hbT).trans hBs
  by_cases h0i : 0 ≤ i
  ·have hjl : j < zs.length:=by have:=hij; unfold Hid at this; omega
   have hie : ((zs.length : Int) - 1 - j) = i:=by have:=hij; unfold Hid at this; omega
   obtain ⟨ad,e,hcell⟩:=Kd.at_int HC.out i h0i hi2
   have hcell' : wr.cell? (ad.add i.toNat) = some (.int .i64 (rd zs i)):=(HK.out.cell (p:=ad.add i.toNat) (by rw [zBF]; exact (HA (by omega) _ e).1) (by rw [zBF]; exact (HA (by omega) _ e).2)).trans hcell
   have hs:=revp_take_succ zs j hjl
   rw [hie] at hs
   have HS:=Lib.hid hs
   cases e
   clear hs hie hcell
   obtain ⟨fn,tmps,assign,body,hy,hR⟩:=HY _ (i,rd zs i) wr HJ.out (by rw [List.length_take,zBS]; omega)
   dsimp only at hy
   gi_wp2
   refine hR.mono ?_
   rintro e W3 (⟨rfl,hJ3,hk3⟩ | ⟨rfl,hJx3⟩)
   ·have HJ3:=Aside0.mk hJ3
    have HK3:=Aside0.mk (HK.out.trans hk3)
    clear hJ3 hk3
    gi_wp2
    go_roundw
    case rel => exact ⟨j + 1,i - 1,by go_num,by have:=hij; unfold Hid at this ⊢; omega,by omega,by omega,⟨by rw [HS.out]; exact HJ3.out⟩,HK3⟩
    case measure => simp [intOf]; omega
   ·have HJx3:=Aside0.mk hJx3
    clear hJx3
    gi_wp2
    refine bodyPost_ret (results_none rfl _ _ _) rfl ?_
    exact ⟨⟨_,rfl⟩,.inr ⟨_,⟨j + 1,by omega,HS.out.symm⟩,HJx3.out⟩⟩
  ·have hje : j = zs.length:=by have:=hij; unfold Hid at this; omega
   have HJ':=HJ.out
   rw [hje,show zs.length = (revp zs).length from (zBS zs).symm,List.take_length] at HJ'
   have HJ2:=Aside0.mk HJ'
   clear HJ' hje
   gi_wp2
   go_end0
   exact ⟨⟨_,rfl⟩,.inl HJ2.out⟩
theorem back_stops (F : Fence) (n : Nat) (h50 : F.fn 133) (hro : F.round = none) (hn : 1 ≤ n) (Bs M cap : Nat) (T : Nat → Prop) (A : Option Addr) (zs : List Int) (w : World) (hBs : Bs < w.heap.size)
  (hb : Bs < M) (hbT : ¬ T Bs) (hA : 0 < zs.length → ∀ ad,A = some ad → ad.block < M ∧ ¬ T ad.block) (hc : w.cell? ⟨Bs,0,none⟩ = some (.slice A zs.length cap)) (hC : Kd.C (Kd.int .i64) w A zs.length zs) :
  SeqStopsK F n Tryz.prog 133 #[.pointer (some ⟨Bs,0,none⟩)] (fun x : Int × Int => #[Value.int .i64 x.1,Value.int .i64 x.2]) (KeepT M T) (fun ys => ys = revp zs) (fun pre => ∃ k,k ≤ zs.length ∧ pre = (revp zs).take k) zs.length w :=
 fun l J Jx W hW _ _ hY h0 => back1 F n h50 hro hn l Bs M cap T A zs hb hbT hA J Jx hY W ((hW.cell (p:=⟨Bs,0,none⟩) hBs).trans hc) (Kd.C_below hC hW) h0
theorem backward_in (F : Fence) (n : Nat) (h36 : F.fn 121) (hro : F.round = none) (a : Option Addr) (len cap : Nat) (w : World) :
  CallsIn F n Tryz.prog 121 #[.slice a len cap] w fun e w' => e = .returned (.func (.func 133) #[] #[.pointer (some ⟨w.heap.size,0,none⟩)]) ∧ w' = w.alloc (.cells #[.slice a len cap] 64):=by
 refine callsIn_of_wp Tryz.func121 rfl h36 ?_ hro
 simp only [Tryz.ntmps121,List.size_toArray,List.length_cons,List.length_nil,Nat.reduceAdd,Nat.reduceSub,Array.replicate_succ,Array.replicate_zero,List.push_toArray,List.append_toArray,List.nil_append,List.cons_append]
 gi_wp2
 go_ret
 exact ⟨rfl,rfl⟩
end Go.Proofs.YtkhlfdcjgooogaaGreat.P
