import Derived.Test.YtpggidmpkhmijaaTrD
import Derived.Test.YtpggidmpkhmijaaPf32
import Derived.Test.YtpggidmpkhmijaaRose
set_option linter.unusedVariables false
set_option linter.unusedSimpArgs false
namespace Go.Proofs.Ytpggidmpkhmijaa.P
open Go.RowKit Go.Proofs.YtpggidmpkhmijaaW.PrintWords Go.Proofs.YtpggidmpkhmijaaW.PrintLast Go.Proofs.YtpggidmpkhmijaaW.PrintMore
def rn (p : Int → Bool) (m : Nat) (L : List Int) (i : Nat) : Nat:=runF p m (L.drop i)
def fin (L : List Int) (i : Nat) : Bool:=(i : Int) == (L.length : Int)
def kidsB_1 (L : List Int) : Bool:=fin L (0 + rn (fun x => x == 2) 4000 L (0) + rn (fun x => x == 3) 4000 L (0 + rn (fun x => x == 2) 4000 L (0)))
def kidsB_3 (L : List Int) : Bool:=(((rn (fun x => x == 6) 1 L (0 + rn (fun x => x == 4) 4000 L (0) + rn (fun x => x == 5) 4000 L (0 + rn (fun x => x == 4) 4000 L (0))) : Nat) : Int) == 1) && fin L (0 + rn (fun x => x == 4) 4000 L (0) + rn (fun x => x == 5) 4000 L (0 + rn (fun x => x == 4) 4000 L (0)) + rn (fun x => x == 6) 1 L (0 + rn (fun x => x == 4) 4000 L (0) + rn (fun x => x == 5) 4000 L (0 + rn (fun x => x == 4) 4000 L (0))))
def kidsB_6 (L : List Int) : Bool:=fin L (0 + rn stB 4000 L (0))
def kidsB_7 (L : List Int) : Bool:=(((rn exB 1 L (0) : Nat) : Int) == 1) && fin L (0 + rn exB 1 L (0))
def kidsB_15 (L : List Int) : Bool:=(((rn exB 1 L (0) : Nat) : Int) == 1) && fin L (0 + rn exB 1 L (0))
def kidsB_17 (L : List Int) : Bool:=(((rn exB 1 L (0) : Nat) : Int) == 1) && fin L (0 + rn exB 1 L (0))
def kidsB_23 (L : List Int) : Bool:=(((rn exB 1 L (0) : Nat) : Int) == 1) && fin L (0 + rn exB 1 L (0))
def kidsB_26 (L : List Int) : Bool:=(((rn exB 1 L (0) : Nat) : Int) == 1) && fin L (0 + rn exB 1 L (0))
def kidsB_8 (L : List Int) : Bool:=(((rn exB 2 L (0) : Nat) : Int) == 2) && fin L (0 + rn exB 2 L (0))
def kidsB_27 (L : List Int) : Bool:=(((rn exB 2 L (0) : Nat) : Int) == 2) && fin L (0 + rn exB 2 L (0))
def kidsB_9 (L : List Int) : Bool:=(((rn (fun x => x == 18) 1 L (0) : Nat) : Int) == 1) && fin L (0 + rn (fun x => x == 18) 1 L (0))
def zBI (L : List Int) : Bool:=(((rn (fun x => x == 18) 1 L (0) : Nat) : Int) == 1) && (((rn exB 1 L (0 + rn (fun x => x == 18) 1 L (0)) : Nat) : Int) == 1) && fin L (0 + rn (fun x => x == 18) 1 L (0) + rn exB 1 L (0 + rn (fun x => x == 18) 1 L (0)))
def zBF (L : List Int) : Bool:=(((rn exB 1 L (0) : Nat) : Int) == 1) && (((rn (fun x => x == 6) 2 L (0 + rn exB 1 L (0)) : Nat) : Int) == 2) && fin L (0 + rn exB 1 L (0) + rn (fun x => x == 6) 2 L (0 + rn exB 1 L (0)))
def zBK (L : List Int) : Bool:=(((rn exB 1 L (0) : Nat) : Int) == 1) && (((rn (fun x => x == 6) 1 L (0 + rn exB 1 L (0)) : Nat) : Int) == 1) && fin L (0 + rn exB 1 L (0) + rn (fun x => x == 6) 1 L (0 + rn exB 1 L (0)))
def zBG (L : List Int) : Bool:=(((rn (fun x => x == 19) 1 L (0) : Nat) : Int) == 1) && fin L (0 + rn (fun x => x == 19) 1 L (0) + rn exB 4000 L (0 + rn (fun x => x == 19) 1 L (0)))
def zBR (L : List Int) : Bool:=fin L (0 + rn exB 1 L (0))
def zBN (L : List Int) : Bool:=(((rn (fun x => x == 6) 2 L (0) : Nat) : Int) == 2) && fin L (0 + rn (fun x => x == 6) 2 L (0))
def kidsB_2 (L : List Int) : Bool:=fin L (0)
def kidsB_4 (L : List Int) : Bool:=fin L (0)
def kidsB_5 (L : List Int) : Bool:=fin L (0)
def kidsB_18 (L : List Int) : Bool:=fin L (0)
def kidsB_19 (L : List Int) : Bool:=fin L (0)
def kidsB_20 (L : List Int) : Bool:=fin L (0)
def kidsB_21 (L : List Int) : Bool:=fin L (0)
def kidsB_22 (L : List Int) : Bool:=fin L (0)
def kidsB_24 (L : List Int) : Bool:=fin L (0)
def kidsB_25 (L : List Int) : Bool:=fin L (0)
def kidsB (k : Int) (L : List Int) : Bool :=
 if k = 1 then kidsB_1 L
 else if k = 3 then kidsB_3 L
 else if k = 6 then kidsB_6 L
 else if k = 7 then kidsB_7 L
 else if k = 15 then kidsB_15 L
 else if k = 17 then kidsB_17 L
 else if k = 23 then kidsB_23 L
 else if k = 26 then kidsB_26 L
 else if k = 8 then kidsB_8 L
 else if k = 27 then kidsB_27 L
 else if k = 9 then kidsB_9 L
 else if k = 10 then zBI L
 else if k = 11 then zBF L
 else if k = 12 then zBK L
 else if k = 13 then zBG L
 else if k = 14 then zBR L
 else if k = 16 then zBN L
 else if k = 2 then kidsB_2 L
 else if k = 4 then kidsB_4 L
 else if k = 5 then kidsB_5 L
 else if k = 18 then kidsB_18 L
 else if k = 19 then kidsB_19 L
 else if k = 20 then kidsB_20 L
 else if k = 21 then kidsB_21 L
 else if k = 22 then kidsB_22 L
 else if k = 24 then kidsB_24 L
 else if k = 25 then kidsB_25 L
 else fin L 0
theorem kinds_len (nodes : List S24) (kl : List Int) : (kindsOf nodes kl).length = kl.length:=by simp [kindsOf]
theorem kids_is (k n at_ : Int) (h1 : 1 ≤ k) (h2 : k ≤ 27) (tx : ByteArray) (Ak : Option Addr) (ck : Nat) (kl : List Int) (At : Option Addr) (ct : Nat) (nodes : List S24) (root : Int) (w : World)
  (hK : Kd.C (Kd.int .i64) w Ak kl.length kl) (hT : Kd.C k24 w At nodes.length nodes) (hck : kl.length ≤ ck) (hct : nodes.length ≤ ct) (hkl : kl.length ≤ 1000) (hnl : nodes.length ≤ 4000) (hin : ∀ x ∈ kl,0 ≤ x ∧ x < nodes.length) :
  Calls Try.prog 33 #[.agg #[.slice At nodes.length ct,.int .i64 root],nodeV k n at_ tx Ak kl.length ck] w fun e w' => e = .returned (.bool (kidsB k (kindsOf nodes kl))) ∧ Below w.heap.size w w':=by
 have hl:=kinds_len nodes kl
 unfold kidsB
 by_cases e1 : k = 1
 ·subst e1
  rw [if_pos rfl,kidsB_1,fin,hl]
  exact kids_1 n at_ tx Ak ck kl At ct nodes root _ rfl _ rfl w hK hT hck hct hkl hnl hin
 rw [if_neg e1]
 by_cases e3 : k = 3
 ·subst e3
  rw [if_pos rfl,kidsB_3,fin,hl]
  exact kids_3 n at_ tx Ak ck kl At ct nodes root _ rfl _ rfl _ rfl w hK hT hck hct hkl hnl hin
 rw [if_neg e3]
 by_cases e6 : k = 6
 ·subst e6
  rw [if_pos rfl,kidsB_6,fin,hl]
  exact kids_6 n at_ tx Ak ck kl At ct nodes root _ rfl w hK hT hck hct hkl hnl hin
 rw [if_neg e6]
 by_cases e7 : k = 7
 ·subst e7
  rw [if_pos rfl,kidsB_7,fin,hl]
  exact kids_7 n at_ tx Ak ck kl At ct nodes root _ rfl w hK hT hck hct hkl hnl hin
 rw [if_neg e7]
 by_cases e15 : k = 15
 ·subst e15
  rw [if_pos rfl,kidsB_15,fin,hl]
  exact kids_15 n at_ tx Ak ck kl At ct nodes root _ rfl w hK hT hck hct hkl hnl hin
 rw [if_neg e15]
 by_cases e17 : k = 17
 ·subst e17
  rw [if_pos rfl,kidsB_17,fin,hl]
  exact kids_17 n at_ tx Ak ck kl At ct nodes root _ rfl w hK hT hck hct hkl hnl hin
 rw [if_neg e17]
 by_cases e23 : k = 23
 ·subst e23
  rw [if_pos rfl,kidsB_23,fin,hl]
  exact kids_23 n at_ tx Ak ck kl At ct nodes root _ rfl w hK hT hck hct hkl hnl hin
 rw [if_neg e23]
 by_cases e26 : k = 26
 ·subst e26
  rw [if_pos rfl,kidsB_26,fin,hl]
  exact kids_26 n at_ tx Ak ck kl At ct nodes root _ rfl w hK hT hck hct hkl hnl hin
 rw [if_neg e26]
 by_cases e8 : k = 8
 ·subst e8
  rw [if_pos rfl,kidsB_8,fin,hl]
  exact kids_8 n at_ tx Ak ck kl At ct nodes root _ rfl w hK hT hck hct hkl hnl hin
 rw [if_neg e8]
 by_cases e27 : k = 27
 ·subst e27
  rw [if_pos rfl,kidsB_27,fin,hl]
  exact kids_27 n at_ tx Ak ck kl At ct nodes root _ rfl w hK hT hck hct hkl hnl hin
 rw [if_neg e27]
 by_cases e9 : k = 9
 ·subst e9
  rw [if_pos rfl,kidsB_9,fin,hl]
  exact kids_9 n at_ tx Ak ck kl At ct nodes root _ rfl w hK hT hck hct hkl hnl hin
 rw [if_neg e9]
 by_cases e10 : k = 10
 ·subst e10
  rw [if_pos rfl,zBI,fin,hl]
  exact kids_10 n at_ tx Ak ck kl At ct nodes root _ rfl _ rfl w hK hT hck hct hkl hnl hin
 rw [if_neg e10]
 by_cases e11 : k = 11
 ·subst e11
  rw [if_pos rfl,zBF,fin,hl]
  exact kids_11 n at_ tx Ak ck kl At ct nodes root _ rfl _ rfl w hK hT hck hct hkl hnl hin
 rw [if_neg e11]
 by_cases e12 : k = 12
 ·subst e12
  rw [if_pos rfl,zBK,fin,hl]
  exact kids_12 n at_ tx Ak ck kl At ct nodes root _ rfl _ rfl w hK hT hck hct hkl hnl hin
 rw [if_neg e12]
 by_cases e13 : k = 13
 ·subst e13
  rw [if_pos rfl,zBG,fin,hl]
  exact kids_13 n at_ tx Ak ck kl At ct nodes root _ rfl _ rfl w hK hT hck hct hkl hnl hin
 rw [if_neg e13]
 by_cases e14 : k = 14
 ·subst e14
  rw [if_pos rfl,zBR,fin,hl]
  exact kids_14 n at_ tx Ak ck kl At ct nodes root _ rfl w hK hT hck hct hkl hnl hin
 rw [if_neg e14]
 by_cases e16 : k = 16
 ·subst e16
  rw [if_pos rfl,zBN,fin,hl]
  exact kids_16 n at_ tx Ak ck kl At ct nodes root _ rfl w hK hT hck hct hkl hnl hin
 rw [if_neg e16]
 by_cases e2 : k = 2
 ·subst e2
  rw [if_pos rfl,kidsB_2,fin,hl]
  exact kids_2 n at_ tx Ak ck kl At ct nodes root w hK hT hck hct hkl hnl hin
 rw [if_neg e2]
 by_cases e4 : k = 4
 ·subst e4
  rw [if_pos rfl,kidsB_4,fin,hl]
  exact kids_4 n at_ tx Ak ck kl At ct nodes root w hK hT hck hct hkl hnl hin
 rw [if_neg e4]
 by_cases e5 : k = 5
 ·subst e5
  rw [if_pos rfl,kidsB_5,fin,hl]
  exact kids_5 n at_ tx Ak ck kl At ct nodes root w hK hT hck hct hkl hnl hin
 rw [if_neg e5]
 by_cases e18 : k = 18
 ·subst e18
  rw [if_pos rfl,kidsB_18,fin,hl]
  exact kids_18 n at_ tx Ak ck kl At ct nodes root w hK hT hck hct hkl hnl hin
 rw [if_neg e18]
 by_cases e19 : k = 19
 ·subst e19
  rw [if_pos rfl,kidsB_19,fin,hl]
  exact kids_19 n at_ tx Ak ck kl At ct nodes root w hK hT hck hct hkl hnl hin
 rw [if_neg e19]
 by_cases e20 : k = 20
 ·subst e20
  rw [if_pos rfl,kidsB_20,fin,hl]
  exact kids_20 n at_ tx Ak ck kl At ct nodes root w hK hT hck hct hkl hnl hin
 rw [if_neg e20]
 by_cases e21 : k = 21
 ·subst e21
  rw [if_pos rfl,kidsB_21,fin,hl]
  exact kids_21 n at_ tx Ak ck kl At ct nodes root w hK hT hck hct hkl hnl hin
 rw [if_neg e21]
 by_cases e22 : k = 22
 ·subst e22
  rw [if_pos rfl,kidsB_22,fin,hl]
  exact kids_22 n at_ tx Ak ck kl At ct nodes root w hK hT hck hct hkl hnl hin
 rw [if_neg e22]
 by_cases e24 : k = 24
 ·subst e24
  rw [if_pos rfl,kidsB_24,fin,hl]
  exact kids_24 n at_ tx Ak ck kl At ct nodes root w hK hT hck hct hkl hnl hin
 rw [if_neg e24]
 by_cases e25 : k = 25
 ·subst e25
  rw [if_pos rfl,kidsB_25,fin,hl]
  exact kids_25 n at_ tx Ak ck kl At ct nodes root w hK hT hck hct hkl hnl hin
 rw [if_neg e25]
 omega
def numB (k n : Int) : Bool :=
 if k = 2 ∨ k = 4 ∨ k = 5 then decide (1 ≤ n) && decide (n ≤ 4)
 else if k = 3 then decide (0 ≤ n) && decide (n ≤ 4)
 else if k = 20 then decide (0 ≤ n)
 else if k = 21 then n == 0 || n == 1
 else n == 0
theorem num_j (k n at_ : Int) (b : Bool) (x : Int) (tx : ByteArray) (l : List Int) : zBd.j0 1 k b x n at_ tx l = some (if b = true then decide (1 ≤ n) && decide (n ≤ 4) else if k = 3 then decide (0 ≤ n) && decide (n ≤ 4) else if k = 20 then decide (0 ≤ n) else if k = 21 then n == 0 || n == 1 else n == 0):=by
 unfold zBd.j0
 cases b
 ·simp only [Bool.false_eq_true,if_false]
  by_cases h3 : k = 3
  ·simp only [h3,if_true]
   by_cases h : n ≥ 0
   ·simp [h]
   ·simp [h]
  ·by_cases h20 : k = 20
   ·simp [h20]
   ·by_cases h21 : k = 21
    ·simp only [h3,h20,h21,if_false,if_true]
     by_cases h : n = 0
     ·simp [h]
     ·simp [h]
    ·simp [h3,h20,h21]
 ·simp only [if_true]
  by_cases h : n ≥ 1
  ·simp [h]
  ·simp [h]
theorem num_f (k n at_ : Int) (tx : ByteArray) (l : List Int) : zBd.f 1 k n at_ tx l = some (numB k n):=by
 unfold zBd.f numB
 rw [num_j,num_j,num_j]
 by_cases h2 : k = 2
 ·simp [h2]
 ·by_cases h4 : k = 4
  ·simp [h4]
  ·by_cases h5 : k = 5
   ·simp [h5]
   ·simp [h2,h4,h5]
def nodeOk (nodes : List S24) (k n : Int) (tx : ByteArray) (kl : List Int) : Bool:=decide (1 ≤ k) && (decide (k ≤ 27) && (textB k tx && (numB k n && kidsB k (kindsOf nodes kl))))
set_option maxRecDepth 100000 in
set_option maxHeartbeats 8000000 in
theorem right1_is (g : Nat) (k n at_ : Int) (tx : ByteArray) (Ak : Option Addr) (ck : Nat) (kl : List Int) (At : Option Addr) (ct : Nat) (nodes : List S24) (root : Int) (w : World) (hE : Env w)
  (hT : w.heap[g]? = some (.cells #[.slice At nodes.length ct,.int .i64 root] 30 (0,0)))
  (hK : Kd.C (Kd.int .i64) w Ak kl.length kl) (hC : Kd.C k24 w At nodes.length nodes) (hck : kl.length ≤ ck) (hct : nodes.length ≤ ct) (hkl : kl.length ≤ 1000) (hnl : nodes.length ≤ 4000) (hin : ∀ x ∈ kl,0 ≤ x ∧ x < nodes.length) (hs : tx.size ≤ 1000) :
  Calls Try.prog 30 #[nodeV k n at_ tx Ak kl.length ck,.pointer (some ⟨g,0,none⟩)] w fun e w' => e = .returned (.bool (!nodeOk nodes k n tx kl)) ∧ Below w.heap.size w w':=by
 have HE:=Lib.hid hE
 have HT:=Lib.hid hT
 have HK:=Lib.hid hK
 have HC:=Lib.hid hC
 have HIN:=Lib.hid hin
 clear hE hT hK hC hin
 unfold nodeOk nodeV
 by_cases h1 : 1 ≤ k
 ·have d1 : decide (k < 1) = false:=decide_eq_false (by omega)
  by_cases h2 : k ≤ 27
  ·have d2 : decide (27 < k) = false:=decide_eq_false (by omega)
   rw [decide_eq_true h1,decide_eq_true h2,Bool.true_and,Bool.true_and]
   obtain ⟨tb,htb⟩ : ∃ b,b = textB k tx:=⟨_,rfl⟩
   obtain ⟨nb,hnb⟩ : ∃ b,b = numB k n:=⟨_,rfl⟩
   obtain ⟨kb,hkb⟩ : ∃ b,b = kidsB k (kindsOf nodes kl):=⟨_,rfl⟩
   have HTX:=Lib.hid (fun (w : World) hE => text_is k n at_ tx Ak kl.length ck h1 h2 hs w hE)
   have HNX:=Lib.hid (fun (w : World) hr => zBd.calls 1 k n at_ tx Ak ck kl nb w hr hck (by rw [hnb]; exact num_f k n at_ tx kl))
   have HKX:=Lib.hid (fun (w : World) hK hT => kids_is k n at_ h1 h2 tx Ak ck kl At ct nodes root w hK hT hck hct hkl hnl HIN.out)
   rw [← htb] at HTX ⊢
   rw [← hkb] at HKX ⊢
   rw [← hnb]
   clear htb hnb hkb
   unfold nodeV at HTX HKX
   go_enter Try.func30,Try.ntmps30
   go_wp2_with fail
   have hb0 : Below w.heap.size w (w.alloc (.cells #[.int .i64 k,.int .i64 n,.int .i64 at_,.string tx,.slice Ak kl.length ck] 24)):=zAg (Below.refl _ _) _
   have hbox:=heap_alloc_new w (.cells #[.int .i64 k,.int .i64 n,.int .i64 at_,.string tx,.slice Ak kl.length ck] 24)
   obtain ⟨W1,hW1⟩ : ∃ W_,W_ = w.alloc (.cells #[.int .i64 k,.int .i64 n,.int .i64 at_,.string tx,.slice Ak kl.length ck] 24):=⟨_,rfl⟩
   rw [← hW1] at hb0 hbox ⊢
   have HB0:=Lib.hid hb0
   have HX0:=Lib.hid hbox
   clear hW1 hb0 hbox
   refine (HTX.out W1 (HE.out.below HB0.out HE.out.six)).mono ?_
   rintro e_ W2 ⟨rfl,hb_⟩
   have HB2:=Lib.hid (zAm HB0.out hb_)
   have HX2 : Hid (W2.heap[w.heap.size]? = some (.cells #[.int .i64 k,.int .i64 n,.int .i64 at_,.string tx,.slice Ak kl.length ck] 24 (0,0))):=Lib.hid ((hb_.block _ (blk_lt HX0.out)).trans HX0.out)
   clear hb_
   have c2_0 : W2.cell? ⟨w.heap.size,0,none⟩ = some (.int .i64 k):=(zAf HX2.out 0).trans rfl
   have c2_1 : W2.cell? ⟨w.heap.size,1,none⟩ = some (.int .i64 n):=(zAf HX2.out 1).trans rfl
   have c2_2 : W2.cell? ⟨w.heap.size,2,none⟩ = some (.int .i64 at_):=(zAf HX2.out 2).trans rfl
   have c2_3 : W2.cell? ⟨w.heap.size,3,none⟩ = some (.string tx):=(zAf HX2.out 3).trans rfl
   have c2_4 : W2.cell? ⟨w.heap.size,4,none⟩ = some (.slice Ak kl.length ck):=(zAf HX2.out 4).trans rfl
   have HG2 : Hid (W2.heap[g]? = some (.cells #[.slice At nodes.length ct,.int .i64 root] 30 (0,0))):=Lib.hid ((HB2.out.block _ (blk_lt HT.out)).trans HT.out)
   have e2_0 : W2.cell? ⟨g,0,none⟩ = some (.slice At nodes.length ct):=(zAf HG2.out 0).trans rfl
   have e2_1 : W2.cell? ⟨g,1,none⟩ = some (.int .i64 root):=(zAf HG2.out 1).trans rfl
   cases tb with
   | false =>
    go_wp2_with fail
    go_ret
    exact ⟨by simp,HB2.out⟩
   | true =>
    go_wp2_with fail
    refine (HNX.out W2 (Kd.C_below HK.out HB2.out)).mono ?_
    rintro e_ W3 ⟨rfl,hb_⟩
    clear c2_0 c2_1 c2_2 c2_3 c2_4 e2_0 e2_1
    have HB3:=Lib.hid (zAm HB2.out hb_)
    have HX3 : Hid (W3.heap[w.heap.size]? = some (.cells #[.int .i64 k,.int .i64 n,.int .i64 at_,.string tx,.slice Ak kl.length ck] 24 (0,0))):=Lib.hid ((hb_.block _ (blk_lt HX2.out)).trans HX2.out)
    clear hb_
    have c3_0 : W3.cell? ⟨w.heap.size,0,none⟩ = some (.int .i64 k):=(zAf HX3.out 0).trans rfl
    have c3_1 : W3.cell? ⟨w.heap.size,1,none⟩ = some (.int .i64 n):=(zAf HX3.out 1).trans rfl
    have c3_2 : W3.cell? ⟨w.heap.size,2,none⟩ = some (.int .i64 at_):=(zAf HX3.out 2).trans rfl
    have c3_3 : W3.cell? ⟨w.heap.size,3,none⟩ = some (.string tx):=(zAf HX3.out 3).trans rfl
    have c3_4 : W3.cell? ⟨w.heap.size,4,none⟩ = some (.slice Ak kl.length ck):=(zAf HX3.out 4).trans rfl
    have HG3 : Hid (W3.heap[g]? = some (.cells #[.slice At nodes.length ct,.int .i64 root] 30 (0,0))):=Lib.hid ((HB3.out.block _ (blk_lt HT.out)).trans HT.out)
    have e3_0 : W3.cell? ⟨g,0,none⟩ = some (.slice At nodes.length ct):=(zAf HG3.out 0).trans rfl
    have e3_1 : W3.cell? ⟨g,1,none⟩ = some (.int .i64 root):=(zAf HG3.out 1).trans rfl
    cases nb with
    | false =>
     go_wp2_with fail
     go_ret
     exact ⟨by simp,HB3.out⟩
    | true =>
     go_wp2_with fail
     refine (HKX.out W3 (Kd.C_below HK.out HB3.out) (Kd.C_below HC.out HB3.out)).mono ?_
     rintro e_ W4 ⟨rfl,hb_⟩
     have HB4:=Lib.hid (zAm HB3.out hb_)
     clear hb_
     cases kb with
     | false =>
      go_wp2_with fail
      go_ret
      exact ⟨by simp,HB4.out⟩
     | true =>
      go_wp2_with fail
      go_ret
      exact ⟨by simp,HB4.out⟩
  ·have d2 : decide (27 < k) = true:=decide_eq_true (by omega)
   go_enter Try.func30,Try.ntmps30
   go_wp2_with fail
   go_ret
   exact ⟨by rw [show decide (k ≤ 27) = false from decide_eq_false (by omega)]; simp,zAg (Below.refl _ _) _⟩
 ·have d1 : decide (k < 1) = true:=decide_eq_true (by omega)
  go_enter Try.func30,Try.ntmps30
  go_wp2_with fail
  go_ret
  exact ⟨by rw [show decide (1 ≤ k) = false from decide_eq_false (by omega)]; simp,zAg (Below.refl _ _) _⟩
attribute [local go_sem] zBa zAY max_two min_two zAR zAT zAZ zAX
def zAP.f (a0 : Int) : Option (Bool):=if a0 ≥ 48 then (some (decide (a0 ≤ 57))) else (some false)
set_option maxHeartbeats 8000000 in
set_option maxRecDepth 100000 in
theorem zAP.calls (a0 : Int) (r : Bool) (w : World) (h : zAP.f a0 = some r) :
  Calls Try.prog 67 #[.int .u8 a0] w fun e w' => e = .returned (.bool r) ∧ Drawn0 w w':=by
 have H : (if a0 ≥ 48 then (some (decide (a0 ≤ 57))) else (some false)) = some r:=h
 clear h
 by_cases c2 : a0 ≥ 48
 ·rw [if_pos c2] at H
  have c2b0 : decide (48 ≤ a0) = true:=decide_eq_true c2
  clear c2
  obtain rfl:=Option.some.inj H
  go_enter Try.func67,Try.ntmps67
  go_wp2
  go_ret
  exact ⟨by first | rfl | (simp; done) | (simp [*]; done),by repeat (first | exact Drawn0.refl _ | apply Drawn0.step)⟩
 ·rw [if_neg c2] at H
  have c2b0 : decide (48 ≤ a0) = false:=decide_eq_false c2
  clear c2
  obtain rfl:=Option.some.inj H
  go_enter Try.func67,Try.ntmps67
  go_wp2
  go_ret
  exact ⟨by first | rfl | (simp; done) | (simp [*]; done),by repeat (first | exact Drawn0.refl _ | apply Drawn0.step)⟩
def zBl.f (a0 : Int) : Option (Bool):=(zAP.f a0).bind fun t292 => (if t292 = true then (some true) else (if a0 ≥ 97 then (if a0 ≤ 122 then (some true) else (if a0 ≥ 65 then (if a0 ≤ 90 then (some true) else (some (a0 == 95))) else (some (a0 == 95)))) else (if a0 ≥ 65 then (if a0 ≤ 90 then (some true) else (some (a0 == 95))) else (some (a0 == 95)))))
set_option maxHeartbeats 8000000 in
set_option maxRecDepth 100000 in
theorem zBl.calls (a0 : Int) (r : Bool) (w : World) (h : zBl.f a0 = some r) :
  Calls Try.prog 65 #[.int .u8 a0] w fun e w' => e = .returned (.bool r) ∧ Drawn0 w w':=by
 have H : ((zAP.f a0).bind fun t292 => (if t292 = true then (some true) else (if a0 ≥ 97 then (if a0 ≤ 122 then (some true) else (if a0 ≥ 65 then (if a0 ≤ 90 then (some true) else (some (a0 == 95))) else (some (a0 == 95)))) else (if a0 ≥ 65 then (if a0 ≤ 90 then (some true) else (some (a0 == 95))) else (some (a0 == 95)))))) = some r:=h
 clear h
 replace H:=Option.bind_eq_some_iff.mp H
 obtain ⟨t292,A20,H⟩:=H
 replace H : (if t292 = true then (some true) else (if a0 ≥ 97 then (if a0 ≤ 122 then (some true) else (if a0 ≥ 65 then (if a0 ≤ 90 then (some true) else (some (a0 == 95))) else (some (a0 == 95)))) else (if a0 ≥ 65 then (if a0 ≤ 90 then (some true) else (some (a0 == 95))) else (some (a0 == 95))))) = some r:=H
 have A2:=Aside0.mk A20
 clear A20
 by_cases c3 : t292 = true
 ·subst c3
  have H1 : (some true) = some r:=by rw [if_pos rfl] at H; exact H
  clear H
  have H:=H1
  clear H1
  obtain rfl:=Option.some.inj H
  go_enter Try.func65,Try.ntmps65
  go_wp2_with (first | ((with_reducible refine zAA (f:=67) rfl ?_); refine goesL_ (some 4) rfl rfl Try.func67 (by kernel_rfl) rfl #[.int .u8 a0] rfl (by (try simp only [List.map_toArray,List.map_cons,List.map_nil]); first | done | rfl | (simp only [List.length_drop,List.length_take]; rfl)) ?_; (with_reducible refine (zAP.calls a0 true _ A2.out).mono ?_); rintro e w' ⟨rfl,⟨nd,rfl⟩⟩; refine ⟨_,rfl,?_⟩))
  go_ret
  exact ⟨by first | rfl | (simp; done) | (simp [*]; done),by repeat (first | exact Drawn0.refl _ | apply Drawn0.step)⟩
 ·replace c3:=Bool.eq_false_iff.mpr c3
  subst c3
  have H1 : (if a0 ≥ 97 then (if a0 ≤ 122 then (some true) else (if a0 ≥ 65 then (if a0 ≤ 90 then (some true) else (some (a0 == 95))) else (some (a0 == 95)))) else (if a0 ≥ 65 then (if a0 ≤ 90 then (some true) else (some (a0 == 95))) else (some (a0 == 95)))) = some r:=by rw [if_neg (show ¬ (false = true) by decide)] at H; exact H
  clear H
  have H:=H1
  clear H1
  by_cases c4 : a0 ≥ 97
  ·rw [if_pos c4] at H
   have c4b0 : decide (97 ≤ a0) = true:=decide_eq_true c4
   clear c4
   by_cases c5 : a0 ≤ 122
   ·rw [if_pos c5] at H
    have c5b0 : decide (a0 ≤ 122) = true:=decide_eq_true c5
    clear c5
    obtain rfl:=Option.some.inj H
    go_enter Try.func65,Try.ntmps65
    go_wp2_with (first | ((with_reducible refine zAA (f:=67) rfl ?_); refine goesL_ (some 4) rfl rfl Try.func67 (by kernel_rfl) rfl #[.int .u8 a0] rfl (by (try simp only [List.map_toArray,List.map_cons,List.map_nil]); first | done | rfl | (simp only [List.length_drop,List.length_take]; rfl)) ?_; (with_reducible refine (zAP.calls a0 false _ A2.out).mono ?_); rintro e w' ⟨rfl,⟨nd,rfl⟩⟩; refine ⟨_,rfl,?_⟩))
    go_ret
    exact ⟨by first | rfl | (simp; done) | (simp [*]; done),by repeat (first | exact Drawn0.refl _ | apply Drawn0.step)⟩
   ·rw [if_neg c5] at H
    have c5b0 : decide (a0 ≤ 122) = false:=decide_eq_false c5
    clear c5
    by_cases c6 : a0 ≥ 65
    ·rw [if_pos c6] at H
     have c6b0 : decide (65 ≤ a0) = true:=decide_eq_true c6
     clear c6
     by_cases c7 : a0 ≤ 90
     ·rw [if_pos c7] at H
      have c7b0 : decide (a0 ≤ 90) = true:=decide_eq_true c7
      clear c7
      obtain rfl:=Option.some.inj H
      go_enter Try.func65,Try.ntmps65
      go_wp2_with (first | ((with_reducible refine zAA (f:=67) rfl ?_); refine goesL_ (some 4) rfl rfl Try.func67 (by kernel_rfl) rfl #[.int .u8 a0] rfl (by (try simp only [List.map_toArray,List.map_cons,List.map_nil]); first | done | rfl | (simp only [List.length_drop,List.length_take]; rfl)) ?_; (with_reducible refine (zAP.calls a0 false _ A2.out).mono ?_); rintro e w' ⟨rfl,⟨nd,rfl⟩⟩; refine ⟨_,rfl,?_⟩))
      go_ret
      exact ⟨by first | rfl | (simp; done) | (simp [*]; done),by repeat (first | exact Drawn0.refl _ | apply Drawn0.step)⟩
     ·rw [if_neg c7] at H
      have c7b0 : decide (a0 ≤ 90) = false:=decide_eq_false c7
      clear c7
      obtain rfl:=Option.some.inj H
      go_enter Try.func65,Try.ntmps65
      go_wp2_with (first | ((with_reducible refine zAA (f:=67) rfl ?_); refine goesL_ (some 4) rfl rfl Try.func67 (by kernel_rfl) rfl #[.int .u8 a0] rfl (by (try simp only [List.map_toArray,List.map_cons,List.map_nil]); first | done | rfl | (simp only [List.length_drop,List.length_take]; rfl)) ?_; (with_reducible refine (zAP.calls a0 false _ A2.out).mono ?_); rintro e w' ⟨rfl,⟨nd,rfl⟩⟩; refine ⟨_,rfl,?_⟩))
      go_ret
      exact ⟨by first | rfl | (simp; done) | (simp [*]; done),by repeat (first | exact Drawn0.refl _ | apply Drawn0.step)⟩
    ·rw [if_neg c6] at H
     have c6b0 : decide (65 ≤ a0) = false:=decide_eq_false c6
     clear c6
     obtain rfl:=Option.some.inj H
     go_enter Try.func65,Try.ntmps65
     go_wp2_with (first | ((with_reducible refine zAA (f:=67) rfl ?_); refine goesL_ (some 4) rfl rfl Try.func67 (by kernel_rfl) rfl #[.int .u8 a0] rfl (by (try simp only [List.map_toArray,List.map_cons,List.map_nil]); first | done | rfl | (simp only [List.length_drop,List.length_take]; rfl)) ?_; (with_reducible refine (zAP.calls a0 false _ A2.out).mono ?_); rintro e w' ⟨rfl,⟨nd,rfl⟩⟩; refine ⟨_,rfl,?_⟩))
     go_ret
     exact ⟨by first | rfl | (simp; done) | (simp [*]; done),by repeat (first | exact Drawn0.refl _ | apply Drawn0.step)⟩
  ·rw [if_neg c4] at H
   have c4b0 : decide (97 ≤ a0) = false:=decide_eq_false c4
   clear c4
   by_cases c8 : a0 ≥ 65
   ·rw [if_pos c8] at H
    have c8b0 : decide (65 ≤ a0) = true:=decide_eq_true c8
    clear c8
    by_cases c9 : a0 ≤ 90
    ·rw [if_pos c9] at H
     have c9b0 : decide (a0 ≤ 90) = true:=decide_eq_true c9
     clear c9
     obtain rfl:=Option.some.inj H
     go_enter Try.func65,Try.ntmps65
     go_wp2_with (first | ((with_reducible refine zAA (f:=67) rfl ?_); refine goesL_ (some 4) rfl rfl Try.func67 (by kernel_rfl) rfl #[.int .u8 a0] rfl (by (try simp only [List.map_toArray,List.map_cons,List.map_nil]); first | done | rfl | (simp only [List.length_drop,List.length_take]; rfl)) ?_; (with_reducible refine (zAP.calls a0 false _ A2.out).mono ?_); rintro e w' ⟨rfl,⟨nd,rfl⟩⟩; refine ⟨_,rfl,?_⟩))
     go_ret
     exact ⟨by first | rfl | (simp; done) | (simp [*]; done),by repeat (first | exact Drawn0.refl _ | apply Drawn0.step)⟩
    ·rw [if_neg c9] at H
     have c9b0 : decide (a0 ≤ 90) = false:=decide_eq_false c9
     clear c9
     obtain rfl:=Option.some.inj H
     go_enter Try.func65,Try.ntmps65
     go_wp2_with (first | ((with_reducible refine zAA (f:=67) rfl ?_); refine goesL_ (some 4) rfl rfl Try.func67 (by kernel_rfl) rfl #[.int .u8 a0] rfl (by (try simp only [List.map_toArray,List.map_cons,List.map_nil]); first | done | rfl | (simp only [List.length_drop,List.length_take]; rfl)) ?_; (with_reducible refine (zAP.calls a0 false _ A2.out).mono ?_); rintro e w' ⟨rfl,⟨nd,rfl⟩⟩; refine ⟨_,rfl,?_⟩))
     go_ret
     exact ⟨by first | rfl | (simp; done) | (simp [*]; done),by repeat (first | exact Drawn0.refl _ | apply Drawn0.step)⟩
   ·rw [if_neg c8] at H
    have c8b0 : decide (65 ≤ a0) = false:=decide_eq_false c8
    clear c8
    obtain rfl:=Option.some.inj H
    go_enter Try.func65,Try.ntmps65
    go_wp2_with (first | ((with_reducible refine zAA (f:=67) rfl ?_); refine goesL_ (some 4) rfl rfl Try.func67 (by kernel_rfl) rfl #[.int .u8 a0] rfl (by (try simp only [List.map_toArray,List.map_cons,List.map_nil]); first | done | rfl | (simp only [List.length_drop,List.length_take]; rfl)) ?_; (with_reducible refine (zAP.calls a0 false _ A2.out).mono ?_); rintro e w' ⟨rfl,⟨nd,rfl⟩⟩; refine ⟨_,rfl,?_⟩))
    go_ret
    exact ⟨by first | rfl | (simp; done) | (simp [*]; done),by repeat (first | exact Drawn0.refl _ | apply Drawn0.step)⟩
def zAO.l0 : Nat → ByteArray → List ByteArray → Int → Option (Bool)
 | 0,_,_,_ => none
 | k + 1,x0,x3,x4 => if x4 < (x3.length : Int) then (if 0 ≤ x4 then (if (rdOf ByteArray.empty x3 x4).toList = x0.toList then (some true) else (zAO.l0 k x0 x3 (wrap64 (x4 + 1)))) else (none)) else (some false)
def zAO.f (k : Nat) (a0 : ByteArray) : Option (Bool):=zAO.l0 k a0 (([(⟨#[118,97,114]⟩ : ByteArray),(⟨#[112,114,111,99]⟩ : ByteArray),(⟨#[105,110,116]⟩ : ByteArray),(⟨#[98,111,111,108]⟩ : ByteArray),(⟨#[97,114,114]⟩ : ByteArray),(⟨#[102,117,110]⟩ : ByteArray),(⟨#[105,110]⟩ : ByteArray),(⟨#[111,117,116]⟩ : ByteArray),(⟨#[105,102]⟩ : ByteArray),(⟨#[101,108,115,101]⟩ : ByteArray),(⟨#[119,104,105,108,101]⟩ : ByteArray),(⟨#[99,97,108,108]⟩ : ByteArray),(⟨#[114,101,116,117,114,110]⟩ : ByteArray),(⟨#[116,104,114,111,119]⟩ : ByteArray),(⟨#[116,114,121]⟩ : ByteArray),(⟨#[99,97,116,99,104]⟩ : ByteArray),(⟨#[110,101,119]⟩ : ByteArray),(⟨#[108,101,110]⟩ : ByteArray),(⟨#[116,114,117,101]⟩ : ByteArray),(⟨#[102,97,108,115,101]⟩ : ByteArray)] : List ByteArray)) 0
set_option maxHeartbeats 8000000 in
set_option maxRecDepth 100000 in
theorem zAO.calls (k : Nat) (a0 : ByteArray) (r : Bool) (w : World) (h : zAO.f k a0 = some r) :
  Calls Try.prog 66 #[.string a0] w fun e w' => e = .returned (.bool r) ∧ Below w.heap.size w w':=by
 have HB:=Aside0.mk (Below.refl w.heap.size w)
 have H : (zAO.l0 k a0 (([(⟨#[118,97,114]⟩ : ByteArray),(⟨#[112,114,111,99]⟩ : ByteArray),(⟨#[105,110,116]⟩ : ByteArray),(⟨#[98,111,111,108]⟩ : ByteArray),(⟨#[97,114,114]⟩ : ByteArray),(⟨#[102,117,110]⟩ : ByteArray),(⟨#[105,110]⟩ : ByteArray),(⟨#[111,117,116]⟩ : ByteArray),(⟨#[105,102]⟩ : ByteArray),(⟨#[101,108,115,101]⟩ : ByteArray),(⟨#[119,104,105,108,101]⟩ : ByteArray),(⟨#[99,97,108,108]⟩ : ByteArray),(⟨#[114,101,116,117,114,110]⟩ : ByteArray),(⟨#[116,104,114,111,119]⟩ : ByteArray),(⟨#[116,114,121]⟩ : ByteArray),(⟨#[99,97,116,99,104]⟩ : ByteArray),(⟨#[110,101,119]⟩ : ByteArray),(⟨#[108,101,110]⟩ : ByteArray),(⟨#[116,114,117,101]⟩ : ByteArray),(⟨#[102,97,108,115,101]⟩ : ByteArray)] : List ByteArray)) 0) = some r:=h
 clear h
 obtain ⟨y293,hy293⟩ : ∃ y_ : List ByteArray,y_ = (([(⟨#[118,97,114]⟩ : ByteArray),(⟨#[112,114,111,99]⟩ : ByteArray),(⟨#[105,110,116]⟩ : ByteArray),(⟨#[98,111,111,108]⟩ : ByteArray),(⟨#[97,114,114]⟩ : ByteArray),(⟨#[102,117,110]⟩ : ByteArray),(⟨#[105,110]⟩ : ByteArray),(⟨#[111,117,116]⟩ : ByteArray),(⟨#[105,102]⟩ : ByteArray),(⟨#[101,108,115,101]⟩ : ByteArray),(⟨#[119,104,105,108,101]⟩ : ByteArray),(⟨#[99,97,108,108]⟩ : ByteArray),(⟨#[114,101,116,117,114,110]⟩ : ByteArray),(⟨#[116,104,114,111,119]⟩ : ByteArray),(⟨#[116,114,121]⟩ : ByteArray),(⟨#[99,97,116,99,104]⟩ : ByteArray),(⟨#[110,101,119]⟩ : ByteArray),(⟨#[108,101,110]⟩ : ByteArray),(⟨#[116,114,117,101]⟩ : ByteArray),(⟨#[102,97,108,115,101]⟩ : ByteArray)] : List ByteArray)):=⟨_,rfl⟩
 replace H : (zAO.l0 k a0 y293 0) = some r:=by first | (rw [hy293]; with_reducible exact H) | (have H2_:=(Option.bind_some _ _).symm.trans H; rw [hy293]; with_reducible exact H2_) | (have H2_:=(Option.bind_some _ _).symm.trans H; with_reducible exact H2_) | with_reducible exact H | (rw [hy293]; exact H) | exact H
 have Ny293:=Aside0.mk hy293
 clear hy293
 have H':=Aside0.mk H
 clear H
 go_enter Try.func66,Try.ntmps66
 go_wp2_with (first | ((with_reducible refine zAM (N:=5) rfl ?_); refine Kd.R_lit Kd.string _ 9 ?hg (N:=5) ?hd (xs:=([(⟨#[118,97,114]⟩ : ByteArray),(⟨#[112,114,111,99]⟩ : ByteArray),(⟨#[105,110,116]⟩ : ByteArray),(⟨#[98,111,111,108]⟩ : ByteArray),(⟨#[97,114,114]⟩ : ByteArray),(⟨#[102,117,110]⟩ : ByteArray),(⟨#[105,110]⟩ : ByteArray),(⟨#[111,117,116]⟩ : ByteArray),(⟨#[105,102]⟩ : ByteArray),(⟨#[101,108,115,101]⟩ : ByteArray),(⟨#[119,104,105,108,101]⟩ : ByteArray),(⟨#[99,97,108,108]⟩ : ByteArray),(⟨#[114,101,116,117,114,110]⟩ : ByteArray),(⟨#[116,104,114,111,119]⟩ : ByteArray),(⟨#[116,114,121]⟩ : ByteArray),(⟨#[99,97,116,99,104]⟩ : ByteArray),(⟨#[110,101,119]⟩ : ByteArray),(⟨#[108,101,110]⟩ : ByteArray),(⟨#[116,114,117,101]⟩ : ByteArray),(⟨#[102,97,108,115,101]⟩ : ByteArray)] : List ByteArray)) (inner:=[.string (⟨#[118,97,114]⟩ : ByteArray),.string (⟨#[112,114,111,99]⟩ : ByteArray),.string (⟨#[105,110,116]⟩ : ByteArray),.string (⟨#[98,111,111,108]⟩ : ByteArray),.string (⟨#[97,114,114]⟩ : ByteArray),.string (⟨#[102,117,110]⟩ : ByteArray),.string (⟨#[105,110]⟩ : ByteArray),.string (⟨#[111,117,116]⟩ : ByteArray),.string (⟨#[105,102]⟩ : ByteArray),.string (⟨#[101,108,115,101]⟩ : ByteArray),.string (⟨#[119,104,105,108,101]⟩ : ByteArray),.string (⟨#[99,97,108,108]⟩ : ByteArray),.string (⟨#[114,101,116,117,114,110]⟩ : ByteArray),.string (⟨#[116,104,114,111,119]⟩ : ByteArray),.string (⟨#[116,114,121]⟩ : ByteArray),.string (⟨#[99,97,116,99,104]⟩ : ByteArray),.string (⟨#[110,101,119]⟩ : ByteArray),.string (⟨#[108,101,110]⟩ : ByteArray),.string (⟨#[116,114,117,101]⟩ : ByteArray),.string (⟨#[102,97,108,115,101]⟩ : ByteArray)]) (ok:=fun _ => True) (okp:=fun _ => True) ?hr ?hp (fun _ hk => hk) trivial (Below.refl _ _) (Nat.le_refl _) (by simp) ?_; (case hd => rfl); (case hg => rfl); (case hr => first | (go_simp; done) | (go_simp; rfl)); (case hp => exact (Reps.one (show Kd.M Kd.string _ _ _ (⟨#[118,97,114]⟩ : ByteArray) [.string (⟨#[118,97,114]⟩ : ByteArray)] from rfl) (Reps.one (show Kd.M Kd.string _ _ _ (⟨#[112,114,111,99]⟩ : ByteArray) [.string (⟨#[112,114,111,99]⟩ : ByteArray)] from rfl) (Reps.one (show Kd.M Kd.string _ _ _ (⟨#[105,110,116]⟩ : ByteArray) [.string (⟨#[105,110,116]⟩ : ByteArray)] from rfl) (Reps.one (show Kd.M Kd.string _ _ _ (⟨#[98,111,111,108]⟩ : ByteArray) [.string (⟨#[98,111,111,108]⟩ : ByteArray)] from rfl) (Reps.one (show Kd.M Kd.string _ _ _ (⟨#[97,114,114]⟩ : ByteArray) [.string (⟨#[97,114,114]⟩ : ByteArray)] from rfl) (Reps.one (show Kd.M Kd.string _ _ _ (⟨#[102,117,110]⟩ : ByteArray) [.string (⟨#[102,117,110]⟩ : ByteArray)] from rfl) (Reps.one (show Kd.M Kd.string _ _ _ (⟨#[105,110]⟩ : ByteArray) [.string (⟨#[105,110]⟩ : ByteArray)] from rfl) (Reps.one (show Kd.M Kd.string _ _ _ (⟨#[111,117,116]⟩ : ByteArray) [.string (⟨#[111,117,116]⟩ : ByteArray)] from rfl) (Reps.one (show Kd.M Kd.string _ _ _ (⟨#[105,102]⟩ : ByteArray) [.string (⟨#[105,102]⟩ : ByteArray)] from rfl) (Reps.one (show Kd.M Kd.string _ _ _ (⟨#[101,108,115,101]⟩ : ByteArray) [.string (⟨#[101,108,115,101]⟩ : ByteArray)] from rfl) (Reps.one (show Kd.M Kd.string _ _ _ (⟨#[119,104,105,108,101]⟩ : ByteArray) [.string (⟨#[119,104,105,108,101]⟩ : ByteArray)] from rfl) (Reps.one (show Kd.M Kd.string _ _ _ (⟨#[99,97,108,108]⟩ : ByteArray) [.string (⟨#[99,97,108,108]⟩ : ByteArray)] from rfl) (Reps.one (show Kd.M Kd.string _ _ _ (⟨#[114,101,116,117,114,110]⟩ : ByteArray) [.string (⟨#[114,101,116,117,114,110]⟩ : ByteArray)] from rfl) (Reps.one (show Kd.M Kd.string _ _ _ (⟨#[116,104,114,111,119]⟩ : ByteArray) [.string (⟨#[116,104,114,111,119]⟩ : ByteArray)] from rfl) (Reps.one (show Kd.M Kd.string _ _ _ (⟨#[116,114,121]⟩ : ByteArray) [.string (⟨#[116,114,121]⟩ : ByteArray)] from rfl) (Reps.one (show Kd.M Kd.string _ _ _ (⟨#[99,97,116,99,104]⟩ : ByteArray) [.string (⟨#[99,97,116,99,104]⟩ : ByteArray)] from rfl) (Reps.one (show Kd.M Kd.string _ _ _ (⟨#[110,101,119]⟩ : ByteArray) [.string (⟨#[110,101,119]⟩ : ByteArray)] from rfl) (Reps.one (show Kd.M Kd.string _ _ _ (⟨#[108,101,110]⟩ : ByteArray) [.string (⟨#[108,101,110]⟩ : ByteArray)] from rfl) (Reps.one (show Kd.M Kd.string _ _ _ (⟨#[116,114,117,101]⟩ : ByteArray) [.string (⟨#[116,114,117,101]⟩ : ByteArray)] from rfl) (Reps.one (show Kd.M Kd.string _ _ _ (⟨#[102,97,108,115,101]⟩ : ByteArray) [.string (⟨#[102,97,108,115,101]⟩ : ByteArray)] from rfl) (Reps.none _ _)))))))))))))))))))))); intro v294 w2 ho3 hb hg_ hnew_; clear hg_ hnew_; (first | rw [← Ny293.out] at ho3 | (simp only [Int.reduceToNat] at ho3; rw [← Ny293.out] at ho3)); have n0_:=Aside0.mk (Kd.R_lower ho3 (zAp (by repeat (first | (with_reducible first | exact HB.out | apply zAg | apply zAc | apply zAi) | exact HB.out)))); have n1_:=Aside0.mk (zAm (by repeat (first | (with_reducible first | exact HB.out | apply zAg | apply zAc | apply zAi) | exact HB.out)) hb); clear HB; have HO295:=n0_; have HB:=n1_; clear n0_ n1_; clear hb ho3))
 go_loopg [4] k (fun kq v4 w' => ∃ (x4_1 : Int),v4 = .int .i64 x4_1 ∧ Aside0 (zAO.l0 kq a0 y293 x4_1 = some r) ∧ Aside0 (kq ≤ k) ∧ Aside0 (Kd.R Kd.string 9 w' w.heap.size (fun _ => True) v294 y293) ∧ Aside0 (Below w.heap.size w w'))
 case atStart => exact ⟨(0),(by first | rfl | (simp; done) | (simp [*]; done)),H',⟨Nat.le_refl _⟩,⟨by (with_reducible repeat (first | apply Kd.R_alloc | apply Kd.R_drewN | apply Kd.R_drew)); exact HO295.out⟩,⟨by repeat (first | (with_reducible first | exact HB.out | apply zAg | apply zAc | apply zAi) | exact HB.out)⟩⟩
 case round =>
  clear H'
  try clear p2
  obtain ⟨x4_1,rfl,HA,HK1,HO_3,HB⟩:=hrel
  cases gk with
  | zero => exact absurd HA.out (by simp [zAO.l0])
  | succ k1 =>
   have H:=HA.out
   clear HA
   simp only [zAO.l0] at H
   by_cases c4 : x4_1 < (y293.length : Int)
   ·rw [if_pos c4] at H
    have c4b0 : decide (x4_1 < (y293.length : Int)) = true:=decide_eq_true c4
    clear c4
    by_cases c5 : 0 ≤ x4_1
    ·rw [if_pos c5] at H
     have c5b0 : decide (0 ≤ x4_1) = true:=decide_eq_true c5
     clear c5
     by_cases c6 : (rdOf ByteArray.empty y293 x4_1).toList = a0.toList
     ·rw [if_pos c6] at H
      have c6b0 : ((rdOf ByteArray.empty y293 x4_1).toList == a0.toList) = true:=beq_iff_eq.mpr c6
      have c6b1 : ((rdOf ByteArray.empty y293 x4_1).toList != a0.toList) = false:=bne_eq_false_iff_eq.mpr c6
      clear c6
      obtain rfl:=Option.some.inj H
      obtain ⟨Ao7,co7,eo7⟩:=Kd.R_slice HO_3.out
      subst eo7
      have p296 : 0 ≤ (x4_1 : Int):=of_decide_eq_true (by first | (with_reducible assumption) | assumption)
      have q296 : x4_1 < (y293.length : Int):=of_decide_eq_true (by first | (with_reducible assumption) | assumption)
      obtain ⟨ad296,e296,hx296_0⟩:=Kd.zCb (Kd.zAV HO_3.out).2.2 x4_1 p296 q296
      cases e296
      replace p296:=eq_true p296
      replace q296:=eq_true q296
      go_wp2
      go_ret
      exact ⟨by first | rfl | (simp [zAo,zAn] <;> rfl) | (simp [*,zAo,zAn] <;> rfl),by repeat (first | (with_reducible first | exact HB.out | apply zAg | apply zAc | apply zAi) | exact HB.out)⟩
     ·rw [if_neg c6] at H
      have c6b0 : ((rdOf ByteArray.empty y293 x4_1).toList == a0.toList) = false:=beq_eq_false_iff_ne.mpr c6
      have c6b1 : ((rdOf ByteArray.empty y293 x4_1).toList != a0.toList) = true:=bne_iff_ne.mpr c6
      have H':=Aside0.mk H
      clear H
      obtain ⟨Ao8,co8,eo8⟩:=Kd.R_slice HO_3.out
      subst eo8
      have p296 : 0 ≤ (x4_1 : Int):=of_decide_eq_true (by first | (with_reducible assumption) | assumption)
      have q296 : x4_1 < (y293.length : Int):=of_decide_eq_true (by first | (with_reducible assumption) | assumption)
      obtain ⟨ad296,e296,hx296_0⟩:=Kd.zCb (Kd.zAV HO_3.out).2.2 x4_1 p296 q296
      cases e296
      replace p296:=eq_true p296
      replace q296:=eq_true q296
      go_wp2
      go_roundg k1
      case measure => have:=HK1.out; omega
      case rel => exact ⟨(wrap64 (x4_1 + 1)),(by first | rfl | (simp; done) | (simp [*]; done)),H',⟨by have:=HK1.out; omega⟩,⟨by (with_reducible repeat (first | apply Kd.R_alloc | apply Kd.R_drewN | apply Kd.R_drew)); exact HO_3.out⟩,⟨by repeat (first | (with_reducible first | exact HB.out | apply zAg | apply zAc | apply zAi) | exact HB.out)⟩⟩
    ·rw [if_neg c5] at H
     exact absurd H (by simp)
   ·rw [if_neg c4] at H
    have c4b0 : decide (x4_1 < (y293.length : Int)) = false:=decide_eq_false c4
    clear c4
    obtain rfl:=Option.some.inj H
    obtain ⟨Ao9,co9,eo9⟩:=Kd.R_slice HO_3.out
    subst eo9
    go_wp2
    go_ret
    exact ⟨by first | rfl | (simp [zAo,zAn] <;> rfl) | (simp [*,zAo,zAn] <;> rfl),by repeat (first | (with_reducible first | exact HB.out | apply zAg | apply zAc | apply zAi) | exact HB.out)⟩
def zAQ.l0 : Nat → ByteArray → Int → Option (Bool)
 | 0,_,_ => none
 | k + 1,x0,x3 => if x3 < (x0.size : Int) then (if 0 ≤ x3 then ((zBl.f (bt x0 x3)).bind fun t297 => (if t297 = true then (zAQ.l0 k x0 (wrap64 (x3 + 1))) else (some false))) else (none)) else ((zAO.f k x0).bind fun t298 => (if (x0.size : Int) ≥ 1 then (if (x0.size : Int) ≤ 20 then (if 0 < (x0.size : Int) then ((zAP.f (bt x0 0)).bind fun t299 => (if t299 = true then (some false) else (some (!t298)))) else (none)) else (some false)) else (some false)))
def zAQ.f (k : Nat) (a0 : ByteArray) : Option (Bool):=zAQ.l0 k a0 0
set_option maxHeartbeats 8000000 in
set_option maxRecDepth 100000 in
theorem zAQ.calls (k : Nat) (a0 : ByteArray) (r : Bool) (w : World) (h : zAQ.f k a0 = some r) :
  Calls Try.prog 55 #[.string a0] w fun e w' => e = .returned (.bool r) ∧ Below w.heap.size w w':=by
 have HB:=Aside0.mk (Below.refl w.heap.size w)
 have H : (zAQ.l0 k a0 0) = some r:=h
 clear h
 have H':=Aside0.mk H
 clear H
 go_enter Try.func55,Try.ntmps55
 go_wp2
 go_loopg [3] k (fun kq v3 w' => ∃ (x3_1 : Int),v3 = .int .i64 x3_1 ∧ Aside0 (zAQ.l0 kq a0 x3_1 = some r) ∧ Aside0 (kq ≤ k) ∧ Aside0 (Below w.heap.size w w'))
 case atStart => exact ⟨(0),(by first | rfl | (simp; done) | (simp [*]; done)),H',⟨Nat.le_refl _⟩,⟨by repeat (first | (with_reducible first | exact HB.out | apply zAg | apply zAc | apply zAi) | exact HB.out)⟩⟩
 case round =>
  clear H'
  obtain ⟨x3_1,rfl,HA,HK1,HB⟩:=hrel
  cases gk with
  | zero => exact absurd HA.out (by simp [zAQ.l0])
  | succ k1 =>
   have H:=HA.out
   clear HA
   simp only [zAQ.l0] at H
   by_cases c2 : x3_1 < (a0.size : Int)
   ·rw [if_pos c2] at H
    have c2b0 : decide (x3_1 < (a0.size : Int)) = true:=decide_eq_true c2
    clear c2
    by_cases c3 : 0 ≤ x3_1
    ·rw [if_pos c3] at H
     have c3b0 : decide (0 ≤ x3_1) = true:=decide_eq_true c3
     clear c3
     replace H:=Option.bind_eq_some_iff.mp H
     obtain ⟨t297,A50,H⟩:=H
     replace H : (if t297 = true then (zAQ.l0 k1 a0 (wrap64 (x3_1 + 1))) else (some false)) = some r:=H
     have A5:=Aside0.mk A50
     clear A50
     by_cases c6 : t297 = true
     ·subst c6
      have H1 : (zAQ.l0 k1 a0 (wrap64 (x3_1 + 1))) = some r:=by rw [if_pos rfl] at H; exact H
      clear H
      have H:=H1
      clear H1
      have H':=Aside0.mk H
      clear H
      have p4 : 0 ≤ (x3_1 : Int):=of_decide_eq_true (by first | (with_reducible assumption) | assumption)
      have q4 : x3_1 < (a0.size : Int):=of_decide_eq_true (by first | (with_reducible assumption) | assumption)
      have hx4:=bt_at a0 x3_1
      replace p4:=eq_true p4
      replace q4:=eq_true q4
      go_wp2_with (first | ((with_reducible refine zAA (f:=65) rfl ?_); refine goesL_ (some 14) rfl rfl Try.func65 (by kernel_rfl) rfl #[.int .u8 (bt a0 x3_1)] rfl (by (try simp only [List.map_toArray,List.map_cons,List.map_nil]); first | done | rfl | (simp only [List.length_drop,List.length_take]; rfl)) ?_; (with_reducible refine (zBl.calls (bt a0 x3_1) true _ A5.out).mono ?_); rintro e w' ⟨rfl,⟨nd,rfl⟩⟩; refine ⟨_,rfl,?_⟩))
      go_roundg k1
      case measure => have:=HK1.out; omega
      case rel => exact ⟨(wrap64 (x3_1 + 1)),(by first | rfl | (simp; done) | (simp [*]; done)),H',⟨by have:=HK1.out; omega⟩,⟨by repeat (first | (with_reducible first | exact HB.out | apply zAg | apply zAc | apply zAi) | exact HB.out)⟩⟩
     ·replace c6:=Bool.eq_false_iff.mpr c6
      subst c6
      have H1 : (some false) = some r:=by rw [if_neg (show ¬ (false = true) by decide)] at H; exact H
      clear H
      have H:=H1
      clear H1
      obtain rfl:=Option.some.inj H
      have p4 : 0 ≤ (x3_1 : Int):=of_decide_eq_true (by first | (with_reducible assumption) | assumption)
      have q4 : x3_1 < (a0.size : Int):=of_decide_eq_true (by first | (with_reducible assumption) | assumption)
      have hx4:=bt_at a0 x3_1
      replace p4:=eq_true p4
      replace q4:=eq_true q4
      go_wp2_with (first | ((with_reducible refine zAA (f:=65) rfl ?_); refine goesL_ (some 14) rfl rfl Try.func65 (by kernel_rfl) rfl #[.int .u8 (bt a0 x3_1)] rfl (by (try simp only [List.map_toArray,List.map_cons,List.map_nil]); first | done | rfl | (simp only [List.length_drop,List.length_take]; rfl)) ?_; (with_reducible refine (zBl.calls (bt a0 x3_1) false _ A5.out).mono ?_); rintro e w' ⟨rfl,⟨nd,rfl⟩⟩; refine ⟨_,rfl,?_⟩))
      go_ret
      exact ⟨by first | rfl | (simp [zAo,zAn] <;> rfl) | (simp [*,zAo,zAn] <;> rfl),by repeat (first | (with_reducible first | exact HB.out | apply zAg | apply zAc | apply zAi) | exact HB.out)⟩
    ·rw [if_neg c3] at H
     exact absurd H (by simp)
   ·rw [if_neg c2] at H
    have c2b0 : decide (x3_1 < (a0.size : Int)) = false:=decide_eq_false c2
    clear c2
    replace H:=Option.bind_eq_some_iff.mp H
    obtain ⟨t298,A70,H⟩:=H
    replace H : (if (a0.size : Int) ≥ 1 then (if (a0.size : Int) ≤ 20 then (if 0 < (a0.size : Int) then ((zAP.f (bt a0 0)).bind fun t299 => (if t299 = true then (some false) else (some (!t298)))) else (none)) else (some false)) else (some false)) = some r:=H
    have A7:=Aside0.mk A70
    clear A70
    by_cases c8 : (a0.size : Int) ≥ 1
    ·rw [if_pos c8] at H
     have c8b0 : decide (1 ≤ (a0.size : Int)) = true:=decide_eq_true c8
     have c8b1 : decide (1 ≤ a0.size) = true:=decide_eq_true (by omega)
     clear c8
     by_cases c9 : (a0.size : Int) ≤ 20
     ·rw [if_pos c9] at H
      have c9b0 : decide ((a0.size : Int) ≤ 20) = true:=decide_eq_true c9
      have c9b1 : decide (a0.size ≤ 20) = true:=decide_eq_true (by omega)
      clear c9
      by_cases c10 : 0 < (a0.size : Int)
      ·rw [if_pos c10] at H
       have c10b0 : decide (0 < (a0.size : Int)) = true:=decide_eq_true c10
       have c10b1 : decide (0 < a0.size) = true:=decide_eq_true (by omega)
       clear c10
       replace H:=Option.bind_eq_some_iff.mp H
       obtain ⟨t299,A120,H⟩:=H
       replace H : (if t299 = true then (some false) else (some (!t298))) = some r:=H
       have A12:=Aside0.mk A120
       clear A120
       by_cases c13 : t299 = true
       ·subst c13
        have H1 : (some false) = some r:=by rw [if_pos rfl] at H; exact H
        clear H
        have H:=H1
        clear H1
        obtain rfl:=Option.some.inj H
        go_wp2_with (first | ((with_reducible refine zAA (f:=66) rfl ?_); refine goesL_ (some 17) rfl rfl Try.func66 (by kernel_rfl) rfl #[.string a0] rfl (by (try simp only [List.map_toArray,List.map_cons,List.map_nil]); first | done | rfl | (simp only [List.length_drop,List.length_take]; rfl)) ?_; (with_reducible refine (zAO.calls k1 a0 t298 _ A7.out).mono ?_); rintro e w14 ⟨rfl,hb⟩; refine ⟨_,rfl,?_⟩; have n0_:=Aside0.mk (zAm (by repeat (first | (with_reducible first | exact HB.out | apply zAg | apply zAc | apply zAi) | exact HB.out)) hb); clear HB; have HB:=n0_; clear n0_; (try clear hb); (try clear hb2); (try clear hk); (try clear hi); have p11 : 0 ≤ (0 : Int):=(by omega); have q11 : 0 < a0.size:=(by have : (0 : Int) < (a0.size : Int):=of_decide_eq_true (by first | (with_reducible assumption) | assumption); omega); have hx11 : ∀ h : 0 < a0.size,((a0[0]'h).toNat : Int) = bt a0 0:=bt_at a0 0; clear p11; have qi11 : (0 < (a0.size : Int)) = True:=eq_true (of_decide_eq_true (by first | (with_reducible assumption) | assumption)); replace q11:=eq_true q11) | (go_at_call 67; (with_reducible refine (zAP.calls (bt a0 0) true _ A12.out).mono ?_); rintro e w' ⟨rfl,⟨nd,rfl⟩⟩))
        go_ret
        exact ⟨by first | rfl | (simp [zAo,zAn] <;> rfl) | (simp [*,zAo,zAn] <;> rfl),by repeat (first | (with_reducible first | exact HB.out | apply zAg | apply zAc | apply zAi) | exact HB.out)⟩
       ·replace c13:=Bool.eq_false_iff.mpr c13
        subst c13
        have H1 : (some (!t298)) = some r:=by rw [if_neg (show ¬ (false = true) by decide)] at H; exact H
        clear H
        have H:=H1
        clear H1
        obtain rfl:=Option.some.inj H
        go_wp2_with (first | ((with_reducible refine zAA (f:=66) rfl ?_); refine goesL_ (some 17) rfl rfl Try.func66 (by kernel_rfl) rfl #[.string a0] rfl (by (try simp only [List.map_toArray,List.map_cons,List.map_nil]); first | done | rfl | (simp only [List.length_drop,List.length_take]; rfl)) ?_; (with_reducible refine (zAO.calls k1 a0 t298 _ A7.out).mono ?_); rintro e w15 ⟨rfl,hb⟩; refine ⟨_,rfl,?_⟩; have n0_:=Aside0.mk (zAm (by repeat (first | (with_reducible first | exact HB.out | apply zAg | apply zAc | apply zAi) | exact HB.out)) hb); clear HB; have HB:=n0_; clear n0_; (try clear hb); (try clear hb2); (try clear hk); (try clear hi); have p11 : 0 ≤ (0 : Int):=(by omega); have q11 : 0 < a0.size:=(by have : (0 : Int) < (a0.size : Int):=of_decide_eq_true (by first | (with_reducible assumption) | assumption); omega); have hx11 : ∀ h : 0 < a0.size,((a0[0]'h).toNat : Int) = bt a0 0:=bt_at a0 0; clear p11; have qi11 : (0 < (a0.size : Int)) = True:=eq_true (of_decide_eq_true (by first | (with_reducible assumption) | assumption)); replace q11:=eq_true q11) | (go_at_call 67; (with_reducible refine (zAP.calls (bt a0 0) false _ A12.out).mono ?_); rintro e w' ⟨rfl,⟨nd,rfl⟩⟩))
        go_ret
        exact ⟨by first | rfl | (simp [zAo,zAn] <;> rfl) | (simp [*,zAo,zAn] <;> rfl),by repeat (first | (with_reducible first | exact HB.out | apply zAg | apply zAc | apply zAi) | exact HB.out)⟩
      ·rw [if_neg c10] at H
       exact absurd H (by simp)
     ·rw [if_neg c9] at H
      have c9b0 : decide ((a0.size : Int) ≤ 20) = false:=decide_eq_false c9
      have c9b1 : decide (a0.size ≤ 20) = false:=decide_eq_false (by omega)
      clear c9
      obtain rfl:=Option.some.inj H
      go_wp2_with (first | ((with_reducible refine zAA (f:=66) rfl ?_); refine goesL_ (some 17) rfl rfl Try.func66 (by kernel_rfl) rfl #[.string a0] rfl (by (try simp only [List.map_toArray,List.map_cons,List.map_nil]); first | done | rfl | (simp only [List.length_drop,List.length_take]; rfl)) ?_; (with_reducible refine (zAO.calls k1 a0 t298 _ A7.out).mono ?_); rintro e w16 ⟨rfl,hb⟩; refine ⟨_,rfl,?_⟩; have n0_:=Aside0.mk (zAm (by repeat (first | (with_reducible first | exact HB.out | apply zAg | apply zAc | apply zAi) | exact HB.out)) hb); clear HB; have HB:=n0_; clear n0_; (try clear hb); (try clear hb2); (try clear hk); (try clear hi)))
      go_ret
      exact ⟨by first | rfl | (simp [zAo,zAn] <;> rfl) | (simp [*,zAo,zAn] <;> rfl),by repeat (first | (with_reducible first | exact HB.out | apply zAg | apply zAc | apply zAi) | exact HB.out)⟩
    ·rw [if_neg c8] at H
     have c8b0 : decide (1 ≤ (a0.size : Int)) = false:=decide_eq_false c8
     have c8b1 : decide (1 ≤ a0.size) = false:=decide_eq_false (by omega)
     clear c8
     obtain rfl:=Option.some.inj H
     go_wp2_with (first | ((with_reducible refine zAA (f:=66) rfl ?_); refine goesL_ (some 17) rfl rfl Try.func66 (by kernel_rfl) rfl #[.string a0] rfl (by (try simp only [List.map_toArray,List.map_cons,List.map_nil]); first | done | rfl | (simp only [List.length_drop,List.length_take]; rfl)) ?_; (with_reducible refine (zAO.calls k1 a0 t298 _ A7.out).mono ?_); rintro e w17 ⟨rfl,hb⟩; refine ⟨_,rfl,?_⟩; have n0_:=Aside0.mk (zAm (by repeat (first | (with_reducible first | exact HB.out | apply zAg | apply zAc | apply zAi) | exact HB.out)) hb); clear HB; have HB:=n0_; clear n0_; (try clear hb); (try clear hb2); (try clear hk); (try clear hi)))
     go_ret
     exact ⟨by first | rfl | (simp [zAo,zAn] <;> rfl) | (simp [*,zAo,zAn] <;> rfl),by repeat (first | (with_reducible first | exact HB.out | apply zAg | apply zAc | apply zAi) | exact HB.out)⟩
end Go.Proofs.Ytpggidmpkhmijaa.P
