import Derived.Test.YtpggidmpkhmijaaPf47
import Derived.Test.YtpggidmpkhmijaaPf15
import Derived.Test.YtpggidmpkhmijaaPf59
import Derived.Test.YtpggidmpkhmijaaPf49
import Derived.Test.YtpggidmpkhmijaaPf55
import Derived.Test.YtpggidmpkhmijaaPureP
set_option linter.unusedVariables false
set_option linter.unusedSimpArgs false
namespace Go.Proofs.Ytpggidmpkhmijaa.P
open Go.RowKit Go.Proofs.YtpggidmpkhmijaaW.PrintWords Go.Proofs.YtpggidmpkhmijaaW.PrintLast Go.Proofs.YtpggidmpkhmijaaW.PrintMore
def texR (k : Int) (b : Bool) (tx : ByteArray) : Bool:=if k = 13 then b || tx.toList == [] else if k = 26 then tx.toList == [45] || tx.toList == [33] else if k = 27 then signedB tx else tx.toList == []
theorem tex_j (N : Nat) (hN : 14 ≤ N) (t : Bool) (k : Int) (b : Bool) (x n at_ : Int) (tx : ByteArray) (l : List Int) : zAr.j0 (N + 1) t k b x n at_ tx l = some (if b = true then t else texR k t tx):=by
 rw [zAr.j0]
 cases b
 ·simp only [Bool.false_eq_true,if_false]
  unfold texR
  by_cases h13 : k = 13
  ·simp only [h13,if_true]
   cases t <;> simp
  ·by_cases h26 : k = 26
   ·simp only [h26,h13,if_true,if_false]
    by_cases h : tx.toList = [45]
    ·simp [h]
    ·simp [h]
   ·by_cases h27 : k = 27
    ·simp only [h27,if_true,if_false]
     rw [ref_signed tx N hN]
     simp
    ·simp [h13,h26,h27]
 ·simp
theorem isE (tx : ByteArray) : (tx.toList == []) = tx.toList.isEmpty:=by cases tx.toList <;> rfl
theorem ref_texts (k n at_ : Int) (tx : ByteArray) (l : List Int) (hs : tx.size ≤ 1000) : ∃ b,Ev (fun N => zAr.f N k n at_ tx l) b ∧ (1 ≤ k → k ≤ 27 → b = textB k tx):=by
 obtain ⟨b,hb⟩ : ∃ b,b = (if k = 2 ∨ k = 3 ∨ k = 4 ∨ k = 5 ∨ k = 7 ∨ k = 8 ∨ k = 9 ∨ k = 16 ∨ k = 17 ∨ k = 18 ∨ k = 19 ∨ k = 22 ∨ k = 23 ∨ k = 24 ∨ k = 25 then identB tx else texR k (identB tx) tx):=⟨_,rfl⟩
 refine ⟨b,⟨2000,fun N hN => ?_⟩,?_⟩
 ·obtain ⟨M,rfl⟩ : ∃ M,N = M + 1:=⟨N - 1,by omega⟩
  show zAr.f (M + 1) k n at_ tx l = some b
  unfold zAr.f
  rw [ref_ident tx (by omega) (M + 1) (by omega)]
  simp only [Option.bind_some,tex_j M (by omega)]
  rw [hb]
  by_cases h2 : k = 2
  ·simp [h2]
  by_cases h3 : k = 3
  ·simp [h3]
  by_cases h4 : k = 4
  ·simp [h4]
  by_cases h5 : k = 5
  ·simp [h5]
  by_cases h7 : k = 7
  ·simp [h7]
  by_cases h8 : k = 8
  ·simp [h8]
  by_cases h9 : k = 9
  ·simp [h9]
  by_cases h16 : k = 16
  ·simp [h16]
  by_cases h17 : k = 17
  ·simp [h17]
  by_cases h18 : k = 18
  ·simp [h18]
  by_cases h19 : k = 19
  ·simp [h19]
  by_cases h22 : k = 22
  ·simp [h22]
  by_cases h23 : k = 23
  ·simp [h23]
  by_cases h24 : k = 24
  ·simp [h24]
  by_cases h25 : k = 25
  ·simp [h25]
  simp [h2,h3,h4,h5,h7,h8,h9,h16,h17,h18,h19,h22,h23,h24,h25]
 ·intro h1 h27
  have hk : k = 1 ∨ k = 2 ∨ k = 3 ∨ k = 4 ∨ k = 5 ∨ k = 6 ∨ k = 7 ∨ k = 8 ∨ k = 9 ∨ k = 10 ∨ k = 11 ∨ k = 12 ∨ k = 13 ∨ k = 14 ∨ k = 15 ∨ k = 16 ∨ k = 17 ∨ k = 18 ∨ k = 19 ∨ k = 20 ∨ k = 21 ∨ k = 22 ∨ k = 23 ∨ k = 24 ∨ k = 25 ∨ k = 26 ∨ k = 27:=by omega
  rcases hk with rfl | rfl | rfl | rfl | rfl | rfl | rfl | rfl | rfl | rfl | rfl | rfl | rfl | rfl | rfl | rfl | rfl | rfl | rfl | rfl | rfl | rfl | rfl | rfl | rfl | rfl | rfl
  all_goals rw [hb]; simp [texR,textB,isE,Bool.or_comm]
theorem rnum_j (N : Nat) (k n at_ : Int) (b : Bool) (x : Int) (tx : ByteArray) (l : List Int) : zAE.j0 (N + 1) k b x n at_ tx l = some (if b = true then decide (1 ≤ n) && decide (n ≤ 4) else if k = 3 then decide (0 ≤ n) && decide (n ≤ 4) else if k = 20 then decide (0 ≤ n) else if k = 21 then n == 0 || n == 1 else n == 0):=by
 unfold zAE.j0
 cases b
 ·simp only [Bool.false_eq_true,if_false]
  by_cases h3 : k = 3
  ·simp only [h3,if_true]
   by_cases h : n ≥ 0
   ·simp [h]
   ·simp [h]
  ·by_cases h20 : k = 20
   ·simp [h20]
   ·by_cases h21 : k = 21
    ·simp only [h3,h20,h21,if_false,if_true]
     by_cases h : n = 0
     ·simp [h]
     ·simp [h]
    ·simp [h3,h20,h21]
 ·simp only [if_true]
  by_cases h : n ≥ 1
  ·simp [h]
  ·simp [h]
theorem ref_numbers (k n at_ : Int) (tx : ByteArray) (l : List Int) : Ev (fun N => zAE.f N k n at_ tx l) (numB k n):=by
 refine ⟨1,fun N hN => ?_⟩
 obtain ⟨M,rfl⟩ : ∃ M,N = M + 1:=⟨N - 1,by omega⟩
 show zAE.f (M + 1) k n at_ tx l = some (numB k n)
 unfold zAE.f numB
 rw [rnum_j,rnum_j,rnum_j]
 by_cases h2 : k = 2
 ·simp [h2]
 ·by_cases h4 : k = 4
  ·simp [h4]
  ·by_cases h5 : k = 5
   ·simp [h5]
   ·simp [h2,h4,h5]
theorem rst_f (x : Int) : zBe.f x = some (stB x):=by
 unfold zBe.f stB
 by_cases h : x ≥ 7
 ·simp [h]
 ·rw [if_neg h]; simp; omega
theorem rex_f (x : Int) : zAG.f x = some (exB x):=by
 unfold zAG.f exB
 by_cases h : x ≥ 20
 ·simp [h]
 ·rw [if_neg h]; simp; omega
theorem rall_l (L : List Int) (hL : L.length ≤ 1000) : ∀ (d i : Nat),i + d = L.length → Ev (fun k => zAH.l0 k L (i : Int)) ((L.drop i).all exB)
 | 0,i,hd => by
  rw [List.drop_of_length_le (by omega)]
  show Ev _ true
  exact Ev.step (fun k => by simp only [zAH.l0]; rw [if_neg (by omega)]) (Ev.now true)
 | d + 1,i,hd => by
  have hi : i < L.length:=by omega
  rw [List.drop_eq_getElem_cons hi,List.all_cons]
  refine Ev.step (f:=fun k => (some (exB L[i])).bind fun t => if t = true then zAH.l0 k L ((i + 1 : Nat) : Int) else some false) (fun k => by simp only [zAH.l0]; rw [if_pos (by omega),if_pos (by omega),rdN L i hi,rex_f,wrapS i (by omega)]) ?_
  cases h : exB L[i] with
  | false => simpa using Ev.now false
  | true => simpa using rall_l L hL d (i + 1) (by omega)
theorem rall_ev (L : List Int) (hL : L.length ≤ 1000) : Ev (fun k => zAH.f k L) (L.all exB):=by
 simpa [zAH.f] using rall_l L hL L.length 0 (by omega)
theorem rst_l (L : List Int) (hL : L.length ≤ 1000) : ∀ (d i : Nat),i + d = L.length → Ev (fun k => zAk.l0 k L (i : Int)) ((L.drop i).all stB)
 | 0,i,hd => by
  rw [List.drop_of_length_le (by omega)]
  show Ev _ true
  exact Ev.step (fun k => by simp only [zAk.l0]; rw [if_neg (by omega)]) (Ev.now true)
 | d + 1,i,hd => by
  have hi : i < L.length:=by omega
  rw [List.drop_eq_getElem_cons hi,List.all_cons]
  refine Ev.step (f:=fun k => (some (stB L[i])).bind fun t => if t = true then zAk.l0 k L ((i + 1 : Nat) : Int) else some false) (fun k => by simp only [zAk.l0]; rw [if_pos (by omega),if_pos (by omega),rdN L i hi,rst_f,wrapS i (by omega)]) ?_
  cases h : stB L[i] with
  | false => simpa using Ev.now false
  | true => simpa using rst_l L hL d (i + 1) (by omega)
def tw (a : Int) (L : List Int) (i : Nat) : Nat:=i + rn (fun x => x == a) 4000 L i
theorem tw_yes (a : Int) (L : List Int) (i : Nat) (hi : i < L.length) (hL : L.length ≤ 1000) (h : L[i] = a) : tw a L i = tw a L (i + 1):=by
 have hbig : ∀ (p : Int → Bool) (l : List Int) (m : Nat),l.length ≤ m → runF p m l = runF p (m + 1) l:=by
  intro p l
  induction l with
  | nil => intro m _; cases m <;> rfl
  | cons c l ih =>
   intro m hm
   cases m with
   | zero => simp at hm
   | succ m =>
    rw [runF,runF]
    split
    ·rw [ih m (by simpa using hm)]
    ·rfl
 unfold tw rn
 rw [List.drop_eq_getElem_cons hi,show (4000 : Nat) = 3999 + 1 from rfl,zCp _ _ _ _ (by simp [h]),hbig _ _ 3999 (by simp; omega)]
 omega
theorem tw_no (a : Int) (L : List Int) (i : Nat) (hi : i < L.length) (h : L[i] ≠ a) : tw a L i = i:=by
 unfold tw rn
 rw [List.drop_eq_getElem_cons hi,runF_no _ _ _ _ (by simp [h])]
 omega
theorem tw_end (a : Int) (L : List Int) (i : Nat) (hi : L.length ≤ i) : tw a L i = i:=by
 unfold tw rn
 rw [List.drop_of_length_le hi]
 rfl
theorem tw_le (a : Int) (L : List Int) (i : Nat) (hi : i ≤ L.length) : tw a L i ≤ L.length:=by
 unfold tw rn
 have:=runF_le (fun x => x == a) (L.drop i) 4000
 rw [List.length_drop] at this
 omega
def riseE (L : List Int) (c : Int) (j : Nat) : Bool:=if c = 0 then (j : Int) == (L.length : Int) else if (j : Int) = (L.length : Int) - 1 then rd L (j : Int) == c else false
theorem rise_l1 (L : List Int) (hL : L.length ≤ 1000) (b c : Int) : ∀ (d i : Nat),i + d = L.length → Ev (fun k => zAz.l1 k L b c (i : Int)) (riseE L c (tw b L i))
 | 0,i,hd => by
  rw [tw_end b L i (by omega)]
  have hw : wrap64 ((L.length : Int) - 1) = (L.length : Int) - 1:=by unfold wrap64; omega
  refine Ev.step (fun k => by simp only [zAz.l1]; rw [if_neg (by omega),hw]) ?_
  unfold riseE
  by_cases hc : c = 0
  ·simp only [if_pos hc]
   exact Ev.now _
  ·have hne : ¬ ((i : Int) = (L.length : Int) - 1):=by omega
   simp only [if_neg hc,if_neg hne]
   exact Ev.now _
 | d + 1,i,hd => by
  have hi : i < L.length:=by omega
  have hw : wrap64 ((L.length : Int) - 1) = (L.length : Int) - 1:=by unfold wrap64; omega
  by_cases hb : L[i] = b
  ·rw [tw_yes b L i hi hL hb]
   exact Ev.step (fun k => by simp only [zAz.l1]; rw [if_pos (by omega),if_pos (by omega),rdN L i hi,if_pos hb,wrapS i (by omega)]) (rise_l1 L hL b c d (i + 1) (by omega))
  ·rw [tw_no b L i hi hb]
   refine Ev.step (fun k => by simp only [zAz.l1]; rw [if_pos (by omega),if_pos (by omega),rdN L i hi,if_neg hb,hw]) ?_
   unfold riseE
   rw [rdN L i hi]
   by_cases hc : c = 0
   ·simp only [if_pos hc]
    exact Ev.now _
   ·by_cases he : (i : Int) = (L.length : Int) - 1
    ·simp only [if_neg hc,if_pos he]
     exact Ev.now _
    ·simp only [if_neg hc,if_neg he]
     exact Ev.now _
theorem rise_l0 (L : List Int) (hL : L.length ≤ 1000) (a b c : Int) : ∀ (d i : Nat),i + d = L.length → Ev (fun k => zAz.l0 k L a b c (i : Int)) (riseE L c (tw b L (tw a L i)))
 | 0,i,hd => by
  rw [tw_end a L i (by omega)]
  exact Ev.step (fun k => by simp only [zAz.l0]; rw [if_neg (by omega)]) (Ev.step (fun k => by simp only [zAz.j1]) (rise_l1 L hL b c 0 i (by omega)))
 | d + 1,i,hd => by
  have hi : i < L.length:=by omega
  by_cases ha : L[i] = a
  ·rw [tw_yes a L i hi hL ha]
   exact Ev.step (fun k => by simp only [zAz.l0]; rw [if_pos (by omega),if_pos (by omega),rdN L i hi,if_pos ha,wrapS i (by omega)]) (rise_l0 L hL a b c d (i + 1) (by omega))
  ·rw [tw_no a L i hi ha]
   exact Ev.step (fun k => by simp only [zAz.l0]; rw [if_pos (by omega),if_pos (by omega),rdN L i hi,if_neg ha]) (Ev.step (fun k => by simp only [zAz.j1]) (rise_l1 L hL b c (d + 1) i hd))
theorem rise_ev (L : List Int) (hL : L.length ≤ 1000) (a b c : Int) : Ev (fun k => zAz.f k L a b c) (riseE L c (tw b L (tw a L 0))):=rise_l0 L hL a b c L.length 0 (by omega)
theorem run_end (p : Int → Bool) : ∀ (L : List Int) (m : Nat),L.length ≤ m → (runF p m L = L.length ↔ L.all p = true)
 | [],m,h => by cases m <;> simp [runF]
 | c :: l,0,h => by simp at h
 | c :: l,m + 1,h => by
  rw [runF,List.all_cons,List.length_cons]
  have ih:=run_end p l m (by simpa using h)
  by_cases hc : p c = true
  ·rw [if_pos hc,hc,Bool.true_and,← ih]
   omega
  ·rw [if_neg hc]
   simp [hc]
theorem fin_run (p : Int → Bool) (L : List Int) (hL : L.length ≤ 1000) : fin L (0 + rn p 4000 L 0) = L.all p:=by
 have:=run_end p L 4000 (by omega)
 rw [Bool.eq_iff_iff,← this]
 simp only [fin,rn,List.drop_zero,beq_iff_eq]
 omega
theorem zBh (L : List Int) (i : Nat) : fin L i = decide (i = L.length):=by
 rw [Bool.eq_iff_iff]; simp [fin]; omega
theorem zBi (p : Int → Bool) (c : Int) (l : List Int) : runF p 1 (c :: l) = if p c = true then 1 else 0:=by
 rw [runF,zCc]
theorem zBw (p : Int → Bool) (c : Int) (l : List Int) : runF p 2 (c :: l) = if p c = true then runF p 1 l + 1 else 0:=rfl
theorem zBx (p : Int → Bool) (m : Nat) : runF p m [] = 0:=by cases m <;> rfl
theorem one_ok : ∀ L : List Int,(if (L.length : Int) = 1 then L.all exB else false) = ((((rn exB 1 L 0 : Nat) : Int) == 1) && fin L (0 + rn exB 1 L 0))
 | [] => by rw [if_neg (by simp)]; rfl
 | [x] => by
  rw [if_pos (by simp),rn,List.drop_zero,zBi,zBh]
  cases h : exB x <;> simp [h]
 | x :: y :: l => by
  rw [if_neg (by simp; omega),rn,List.drop_zero,zBi,zBh]
  cases h : exB x <;> simp [h]
theorem two_ok : ∀ L : List Int,(if (L.length : Int) = 2 then L.all exB else false) = ((((rn exB 2 L 0 : Nat) : Int) == 2) && fin L (0 + rn exB 2 L 0))
 | [] => by rw [if_neg (by simp)]; rfl
 | [x] => by
  rw [if_neg (by simp),rn,List.drop_zero,zBw,zBh,zBx]
  cases h : exB x <;> simp [h]
 | [x,y] => by
  rw [if_pos (by simp),rn,List.drop_zero,zBw,zBh,zBi]
  cases h : exB x <;> cases h2 : exB y <;> simp [h,h2]
 | x :: y :: z :: l => by
  rw [if_neg (by simp; omega),rn,List.drop_zero,zBw,zBh,zBi]
  cases h : exB x <;> cases h2 : exB y <;> simp [h,h2]
theorem three_ok (L : List Int) (j : Nat) (hj : j ≤ L.length) : riseE L 6 j = ((((rn (fun x => x == 6) 1 L j : Nat) : Int) == 1) && fin L (j + rn (fun x => x == 6) 1 L j)):=by
 unfold riseE
 rw [if_neg (by decide),zBh]
 by_cases h : j < L.length
 ·rw [rdN L j h,rn,List.drop_eq_getElem_cons h,zBi]
  by_cases h6 : L[j] = 6
  ·by_cases he : (j : Int) = (L.length : Int) - 1
   ·have : j + 1 = L.length:=by omega
    simp [h6,he,this]
   ·have : ¬ (j + 1 = L.length):=by omega
    simp [h6,he,this]
  ·simp [h6]
 ·rw [if_neg (by omega),rn,List.drop_of_length_le (by omega),zBx]
  rfl
theorem j1_yes (L : List Int) (hL : L.length ≤ 1000) (x : Int) : Ev (fun k => zAk.j1 k L x true) (if (L.length : Int) = 1 then L.all exB else false):=by
 by_cases h : (L.length : Int) = 1
 ·simp only [if_pos h]
  exact Ev.step (fun k => by simp only [zAk.j1]; rw [if_pos trivial,if_pos h]) (Ev.bind (rall_ev L hL) (Ev.now _))
 ·simp only [if_neg h]
  exact Ev.step (fun k => by simp only [zAk.j1]; rw [if_pos trivial,if_neg h]) (Ev.now _)
theorem j2_yes (L : List Int) (hL : L.length ≤ 1000) (x : Int) : Ev (fun k => zAk.j2 k L x true) (if (L.length : Int) = 2 then L.all exB else false):=by
 by_cases h : (L.length : Int) = 2
 ·simp only [if_pos h]
  exact Ev.step (fun k => by simp only [zAk.j2]; rw [if_pos trivial,if_pos h]) (Ev.bind (rall_ev L hL) (Ev.now _))
 ·simp only [if_neg h]
  exact Ev.step (fun k => by simp only [zAk.j2]; rw [if_pos trivial,if_neg h]) (Ev.now _)
theorem to_j2 (L : List Int) (x : Int) (b r : Bool) (h1 : x ≠ 1) (h3 : x ≠ 3) (h6 : x ≠ 6) (h7 : x ≠ 7) (h15 : x ≠ 15) (h17 : x ≠ 17) (h23 : x ≠ 23) (h26 : x ≠ 26) (hb : b = (x == 8 || x == 27)) (h : Ev (fun k => zAk.j2 k L x b) r) : Ev (fun k => zAk.f k x L) r:=by
 refine Ev.congr (f:=fun k => zAk.j1 k L x false) (fun k => ?_) (Ev.step (fun k => ?_) h)
 ·have e26 : (x == 26) = false:=by simp [h26]
  simp [zAk.f,h1,h3,h6,h7,h15,h17,h23,e26]
 ·rw [hb]
  by_cases h8 : x = 8
  ·simp [zAk.j1,h8]
  ·have e8 : (x == 8) = false:=by simp [h8]
   simp [zAk.j1,h8,e8]
theorem now2 {L : List Int} {x : Int} {r : Bool} (h : ∀ k,zAk.j2 (k + 1) L x false = some r) : Ev (fun k => zAk.j2 k L x false) r:=Ev.step h (Ev.now _)
theorem k9 (L : List Int) : Ev (fun k => zAk.j2 k L 9 false) (kidsB_9 L):=by
 refine now2 fun k => ?_
 match L with
 | [] => simp [zAk.j2,kidsB_9,rn,runF]
 | [a] => by_cases h : a = 18 <;> simp [zAk.j2,kidsB_9,rn,zBi,fin,rd,h]
 | a :: b :: l =>
  have h1 : ¬ ((l.length : Int) + 1 + 1 = 1):=by omega
  by_cases h : a = 18 <;> simp [zAk.j2,kidsB_9,rn,zBi,zBh,h1,h]
theorem k10 (L : List Int) : Ev (fun k => zAk.j2 k L 10 false) (zBI L):=by
 refine now2 fun k => ?_
 match L with
 | [] => simp [zAk.j2,zBI,rn,runF]
 | [a] => by_cases h : a = 18 <;> simp [zAk.j2,zBI,rn,zBi,zBx,zBh,rd,h]
 | [a,b] => by_cases h : a = 18 <;> cases hb : exB b <;> simp [zAk.j2,zBI,rn,zBi,zBx,zBh,rd,rex_f,h,hb]
 | a :: b :: c :: l =>
  have h1 : ¬ ((l.length : Int) + 1 + 1 + 1 = 2):=by omega
  by_cases h : a = 18 <;> cases hb : exB b <;> simp [zAk.j2,zBI,rn,zBi,zBh,h1,h,hb]
theorem k11 (L : List Int) : Ev (fun k => zAk.j2 k L 11 false) (zBF L):=by
 refine now2 fun k => ?_
 match L with
 | [] => simp [zAk.j2,zBF,rn,runF]
 | [a] => cases h : exB a <;> simp [zAk.j2,zBF,rn,zBi,zBx,zBh,rd,h]
 | [a,b] => cases h : exB a <;> by_cases hb : b = 6 <;> simp [zAk.j2,zBF,rn,zBi,zBw,zBx,zBh,rd,rex_f,h,hb]
 | [a,b,c] => cases h : exB a <;> by_cases hb : b = 6 <;> by_cases hc : c = 6 <;> simp [zAk.j2,zBF,rn,zBi,zBw,zBx,zBh,rd,rex_f,h,hb,hc]
 | a :: b :: c :: d :: l =>
  have h1 : ¬ ((l.length : Int) + 1 + 1 + 1 + 1 = 3):=by omega
  cases h : exB a <;> by_cases hb : b = 6 <;> by_cases hc : c = 6 <;> simp [zAk.j2,zBF,rn,zBi,zBw,zBh,h1,h,hb,hc]
theorem k12 (L : List Int) : Ev (fun k => zAk.j2 k L 12 false) (zBK L):=by
 refine now2 fun k => ?_
 match L with
 | [] => simp [zAk.j2,zBK,rn,runF]
 | [a] => cases h : exB a <;> simp [zAk.j2,zBK,rn,zBi,zBx,zBh,rd,h]
 | [a,b] => cases h : exB a <;> by_cases hb : b = 6 <;> simp [zAk.j2,zBK,rn,zBi,zBw,zBx,zBh,rd,rex_f,h,hb]
 | a :: b :: c :: l =>
  have h1 : ¬ ((l.length : Int) + 1 + 1 + 1 = 2):=by omega
  cases h : exB a <;> by_cases hb : b = 6 <;> simp [zAk.j2,zBK,rn,zBi,zBw,zBh,h1,h,hb]
theorem k16 (L : List Int) : Ev (fun k => zAk.j2 k L 16 false) (zBN L):=by
 refine now2 fun k => ?_
 match L with
 | [] => simp [zAk.j2,zBN,rn,runF]
 | [a] => by_cases h : a = 6 <;> simp [zAk.j2,zBN,rn,zBi,zBw,zBx,zBh,rd,h]
 | [a,b] => by_cases h : a = 6 <;> by_cases hb : b = 6 <;> simp [zAk.j2,zBN,rn,zBi,zBw,zBx,zBh,rd,rex_f,h,hb]
 | a :: b :: c :: l =>
  have h1 : ¬ ((l.length : Int) + 1 + 1 + 1 = 2):=by omega
  by_cases h : a = 6 <;> by_cases hb : b = 6 <;> simp [zAk.j2,zBN,rn,zBi,zBw,zBh,h1,h,hb]
theorem k14 (L : List Int) (hL : L.length ≤ 1000) : Ev (fun k => zAk.j2 k L 14 false) (zBR L):=by
 by_cases h : (L.length : Int) ≤ 1
 ·have e : zBR L = L.all exB:=by
   match L with
   | [] => rfl
   | [a] => cases h : exB a <;> simp [zBR,rn,zBi,zBh,h]
   | a :: b :: l => simp at h; omega
  rw [e]
  exact Ev.step (f:=fun k => (zAH.f k L).bind fun t => some t) (fun k => by simp [zAk.j2,h]) (Ev.bind (rall_ev L hL) (Ev.now _))
 ·have e : zBR L = false:=by
   match L with
   | [] => simp at h
   | [a] => simp at h
   | a :: b :: l => cases h : exB a <;> simp [zBR,rn,zBi,zBh,h]
  rw [e]
  exact now2 fun k => by simp [zAk.j2,h]
theorem k13 (L : List Int) (hL : L.length ≤ 1000) : Ev (fun k => zAk.j2 k L 13 false) (zBG L):=by
 match L with
 | [] => exact now2 fun k => by simp [zAk.j2,zBG,rn,runF]
 | a :: l =>
  have hl : l.length ≤ 1000:=by simp at hL; omega
  have g1 : ((a :: l).length : Int) ≥ 1:=by simp; omega
  have g2 : (0 : Int) < ((a :: l).length : Int):=by omega
  have g3 : (1 : Int) ≤ ((a :: l).length : Int):=g1
  have g4 : rd (a :: l) 0 = a:=rfl
  by_cases h : a = 19
  ·have e : zBG (a :: l) = l.all exB:=by
    have:=run_end exB l 4000 (by omega)
    rw [Bool.eq_iff_iff,← this]
    simp [zBG,rn,zBi,zBh,h]
    omega
   rw [e]
   refine Ev.step (f:=fun k => (zAH.f k l).bind fun t => some t) (fun k => ?_) (Ev.bind (rall_ev l hl) (Ev.now _))
   simp only [zAk.j2]
   rw [if_neg (by simp),if_neg (by simp),if_neg (by simp),if_neg (by simp),if_neg (by simp),if_pos trivial,if_pos g1,if_pos g2,g4,if_pos h,if_pos g3]
   rfl
  ·have e : zBG (a :: l) = false:=by simp [zBG,rn,zBi,zBh,h]
   rw [e]
   refine now2 fun k => ?_
   simp only [zAk.j2]
   rw [if_neg (by simp),if_neg (by simp),if_neg (by simp),if_neg (by simp),if_neg (by simp),if_pos trivial,if_pos g1,if_pos g2,g4,if_neg h]
theorem k_else (L : List Int) (x : Int) (h9 : x ≠ 9) (h10 : x ≠ 10) (h11 : x ≠ 11) (h12 : x ≠ 12) (h13 : x ≠ 13) (h14 : x ≠ 14) (h16 : x ≠ 16) : Ev (fun k => zAk.j2 k L x false) (fin L 0):=by
 have e : fin L 0 = ((L.length : Int) == 0):=by rw [Bool.eq_iff_iff]; simp only [fin,beq_iff_eq]; omega
 rw [e]
 exact now2 fun k => by simp [zAk.j2,h9,h10,h11,h12,h13,h14,h16]
theorem ref_kids (k : Int) (L : List Int) (hL : L.length ≤ 1000) : ∃ b,Ev (fun N => zAk.f N k L) b ∧ (1 ≤ k → k ≤ 27 → b = kidsB k L):=by
 by_cases hr : 1 ≤ k ∧ k ≤ 27
 ·refine ⟨kidsB k L,?_,fun _ _ => rfl⟩
  have hk : k = 1 ∨ k = 2 ∨ k = 3 ∨ k = 4 ∨ k = 5 ∨ k = 6 ∨ k = 7 ∨ k = 8 ∨ k = 9 ∨ k = 10 ∨ k = 11 ∨ k = 12 ∨ k = 13 ∨ k = 14 ∨ k = 15 ∨ k = 16 ∨ k = 17 ∨ k = 18 ∨ k = 19 ∨ k = 20 ∨ k = 21 ∨ k = 22 ∨ k = 23 ∨ k = 24 ∨ k = 25 ∨ k = 26 ∨ k = 27:=by omega
  have H1 : ∀ x : Int,x = 7 ∨ x = 15 ∨ x = 17 ∨ x = 23 ∨ x = 26 → Ev (fun N => zAk.f N x L) ((((rn exB 1 L 0 : Nat) : Int) == 1) && fin L (0 + rn exB 1 L 0)):=fun x hx => by
   rw [← one_ok]
   refine Ev.congr (f:=fun k => zAk.j1 k L x true) (fun k => ?_) (j1_yes L hL x)
   rcases hx with rfl | rfl | rfl | rfl | rfl <;> simp [zAk.f]
  have HE : ∀ x : Int,x = 2 ∨ x = 4 ∨ x = 5 ∨ x = 18 ∨ x = 19 ∨ x = 20 ∨ x = 21 ∨ x = 22 ∨ x = 24 ∨ x = 25 → Ev (fun N => zAk.f N x L) (fin L 0):=fun x hx => by
   refine to_j2 L x false _ (by omega) (by omega) (by omega) (by omega) (by omega) (by omega) (by omega) (by omega) ?_ (k_else L x (by omega) (by omega) (by omega) (by omega) (by omega) (by omega) (by omega))
   rcases hx with rfl | rfl | rfl | rfl | rfl | rfl | rfl | rfl | rfl | rfl <;> rfl
  rcases hk with rfl | rfl | rfl | rfl | rfl | rfl | rfl | rfl | rfl | rfl | rfl | rfl | rfl | rfl | rfl | rfl | rfl | rfl | rfl | rfl | rfl | rfl | rfl | rfl | rfl | rfl | rfl
  ·exact Ev.congr (f:=fun N => (zAz.f N L 2 3 0).bind fun t => some t) (fun N => by simp [zAk.f]) (Ev.bind (rise_ev L hL 2 3 0) (Ev.now _))
  ·exact HE 2 (by omega)
  ·have e : kidsB 3 L = riseE L 6 (tw 5 L (tw 4 L 0)):=(three_ok L _ (tw_le _ _ _ (tw_le _ _ _ (Nat.zero_le _)))).symm
   rw [e]
   exact Ev.congr (f:=fun N => (zAz.f N L 4 5 6).bind fun t => some t) (fun N => by simp [zAk.f]) (Ev.bind (rise_ev L hL 4 5 6) (Ev.now _))
  ·exact HE 4 (by omega)
  ·exact HE 5 (by omega)
  ·have e : kidsB 6 L = L.all stB:=fin_run stB L hL
   rw [e]
   exact Ev.congr (f:=fun N => zAk.l0 N L ((0 : Nat) : Int)) (fun N => by simp [zAk.f]) (rst_l L hL L.length 0 (by omega))
  ·exact H1 7 (by omega)
  ·have e : kidsB 8 L = _:=(two_ok L).symm
   rw [e]
   exact to_j2 L 8 true _ (by decide) (by decide) (by decide) (by decide) (by decide) (by decide) (by decide) (by decide) rfl (j2_yes L hL 8)
  ·exact to_j2 L 9 false _ (by decide) (by decide) (by decide) (by decide) (by decide) (by decide) (by decide) (by decide) rfl (k9 L)
  ·exact to_j2 L 10 false _ (by decide) (by decide) (by decide) (by decide) (by decide) (by decide) (by decide) (by decide) rfl (k10 L)
  ·exact to_j2 L 11 false _ (by decide) (by decide) (by decide) (by decide) (by decide) (by decide) (by decide) (by decide) rfl (k11 L)
  ·exact to_j2 L 12 false _ (by decide) (by decide) (by decide) (by decide) (by decide) (by decide) (by decide) (by decide) rfl (k12 L)
  ·exact to_j2 L 13 false _ (by decide) (by decide) (by decide) (by decide) (by decide) (by decide) (by decide) (by decide) rfl (k13 L hL)
  ·exact to_j2 L 14 false _ (by decide) (by decide) (by decide) (by decide) (by decide) (by decide) (by decide) (by decide) rfl (k14 L hL)
  ·exact H1 15 (by omega)
  ·exact to_j2 L 16 false _ (by decide) (by decide) (by decide) (by decide) (by decide) (by decide) (by decide) (by decide) rfl (k16 L)
  ·exact H1 17 (by omega)
  ·exact HE 18 (by omega)
  ·exact HE 19 (by omega)
  ·exact HE 20 (by omega)
  ·exact HE 21 (by omega)
  ·exact HE 22 (by omega)
  ·exact H1 23 (by omega)
  ·exact HE 24 (by omega)
  ·exact HE 25 (by omega)
  ·exact H1 26 (by omega)
  ·have e : kidsB 27 L = _:=(two_ok L).symm
   rw [e]
   exact to_j2 L 27 true _ (by decide) (by decide) (by decide) (by decide) (by decide) (by decide) (by decide) (by decide) rfl (j2_yes L hL 27)
 ·refine ⟨fin L 0,?_,fun h1 h2 => absurd ⟨h1,h2⟩ hr⟩
  refine to_j2 L k false _ (by omega) (by omega) (by omega) (by omega) (by omega) (by omega) (by omega) (by omega) ?_ (k_else L k (by omega) (by omega) (by omega) (by omega) (by omega) (by omega) (by omega))
  have a1 : ¬ (k = 8):=by omega
  have a2 : ¬ (k = 27):=by omega
  simp [a1,a2]
def okN (nodes : List S24) (x : S24) : Bool:=nodeOk nodes x.f0 x.f1 x.f3 x.f4
def Fit (nodes : List S24) : Prop:=nodes.length ≤ 4000 ∧ ∀ x ∈ nodes,(∀ k ∈ x.f4,0 ≤ k ∧ k < nodes.length) ∧ x.f4.length ≤ 1000 ∧ x.f3.size ≤ 1000
theorem rd24_at (xs : List S24) (i : Nat) (h : i < xs.length) : rd_T24 xs (i : Int) = xs[i]:=by
 simp [rd_T24,List.getD_eq_getElem?_getD,h]
set_option maxRecDepth 100000 in
set_option maxHeartbeats 8000000 in
theorem find_is (g : Nat) (At : Option Addr) (ct : Nat) (nodes : List S24) (root : Int) (hF : Fit nodes) (w : World) (hE : Env w) (hT : w.heap[g]? = some (.cells #[.slice At nodes.length ct,.int .i64 root] 30 (0,0))) (hC : Kd.C k24 w At nodes.length nodes) (hct : nodes.length ≤ ct) :
  Calls Try.prog 37 #[.slice At nodes.length ct,.func (.func 30) #[] #[.pointer (some ⟨g,0,none⟩)]] w fun e w' => ∃ v : Int,e = .returned (.int .i64 v) ∧ Hid (decide (0 ≤ v) = !(nodes.all (okN nodes))) ∧ Below w.heap.size w w':=by
 have HF:=Lib.hid hF
 have HE:=Lib.hid hE
 have HT:=Lib.hid hT
 have HC:=Lib.hid hC
 have hnl:=hF.1
 clear hF hE hT hC
 go_enter Try.func37,Try.ntmps37
 go_wp2_with fail
 go_loopg [8] (nodes.length + 1) (fun kq v8 W => ∃ i : Nat,v8 = .int .i64 i ∧ i ≤ nodes.length ∧ Hid (i + kq = nodes.length + 1) ∧ Hid ((nodes.take i).all (okN nodes) = true) ∧ Hid (Below w.heap.size w W))
 case atStart => exact ⟨0,rfl,Nat.zero_le _,Lib.hid (by omega),Lib.hid rfl,Lib.hid (Below.refl _ _)⟩
 case round =>
  obtain ⟨i,rfl,hi,HN,HA,HB⟩:=hrel
  by_cases hlt : i < nodes.length
  ·obtain ⟨ad,A4,c4,eA,z0,z1,z2,z3,z4,l4,g4⟩:=at_T24 (Kd.C_below HC.out HB.out) (i : Int) (by omega) (by omega)
   have hx:=rd24_at nodes i hlt
   have hfx:=HF.out.2 nodes[i] (List.getElem_mem hlt)
   rw [← hx] at hfx
   have htk : nodes.take (i + 1) = nodes.take i ++ [rd_T24 nodes (i : Int)]:=by rw [hx]; exact List.take_succ_eq_append_getElem hlt
   have hmem : rd_T24 nodes (i : Int) ∈ nodes:=by rw [hx]; exact List.getElem_mem hlt
   rw [Int.toNat_natCast] at z0 z1 z2 z3 z4
   obtain ⟨x,hxx⟩ : ∃ x,x = rd_T24 nodes (i : Int):=⟨_,rfl⟩
   rw [← hxx] at z0 z1 z2 z3 z4 l4 g4 hfx htk hmem
   obtain ⟨k,n,at_,tx,kl⟩:=x
   cases eA
   have HTK:=Lib.hid htk
   have HMEM:=Lib.hid hmem
   have HFX:=Lib.hid hfx
   have HG4:=Lib.hid g4
   have HL4:=Lib.hid l4
   have HR1:=Lib.hid (right1_is g k n at_ tx A4 c4 kl _ ct nodes root wr (HE.out.below HB.out HE.out.six) ((HB.out.block _ (blk_lt HT.out)).trans HT.out) HG4.out (Kd.C_below HC.out HB.out) HL4.out hct HFX.out.2.1 hnl HFX.out.1 HFX.out.2.2)
   unfold nodeV at HR1
   clear hx hxx htk hmem hfx g4 l4
   cases hok : nodeOk nodes k n tx kl with
   | true =>
    rw [hok] at HR1
    have HOK:=Lib.hid hok
    clear hok
    go_wp2_with fail
    refine HR1.out.mono ?_
    rintro e_ W2 ⟨rfl,hb_⟩
    have HB2:=Lib.hid (zAm HB.out hb_)
    clear hb_
    go_wp2_with fail
    go_roundg (gk - 1)
    case measure => have:=HN.out; omega
    case rel => exact ⟨i + 1,by norm_cast,hlt,Lib.hid (by have:=HN.out; omega),Lib.hid (by rw [HTK.out,List.all_append,HA.out,List.all_cons]; exact (by rw [show okN nodes ⟨k,n,at_,tx,kl⟩ = true from HOK.out]; rfl)),HB2⟩
   | false =>
    rw [hok] at HR1
    have HOK:=Lib.hid hok
    clear hok
    go_wp2_with fail
    refine HR1.out.mono ?_
    rintro e_ W2 ⟨rfl,hb_⟩
    have HB2:=Lib.hid (zAm HB.out hb_)
    clear hb_
    go_wp2_with fail
    go_ret
    refine ⟨i,rfl,Lib.hid ?_,HB2.out⟩
    have h1 : nodes.all (okN nodes) = false:=by
     rw [List.all_eq_false]
     exact ⟨_,HMEM.out,by rw [show okN nodes ⟨k,n,at_,tx,kl⟩ = false from HOK.out]; simp⟩
    rw [h1]
    simp
  ·obtain rfl : i = nodes.length:=by omega
   have hall:=HA.out
   rw [List.take_length] at hall
   have HALL:=Lib.hid hall
   clear hall
   go_wp2_with fail
   go_ret
   exact ⟨-1,rfl,Lib.hid (by rw [HALL.out]; rfl),HB.out⟩
set_option maxRecDepth 100000 in
theorem any_is (g : Nat) (At : Option Addr) (ct : Nat) (nodes : List S24) (root : Int) (hF : Fit nodes) (w : World) (hE : Env w) (hT : w.heap[g]? = some (.cells #[.slice At nodes.length ct,.int .i64 root] 30 (0,0))) (hC : Kd.C k24 w At nodes.length nodes) (hct : nodes.length ≤ ct) :
  Calls Try.prog 29 #[.slice At nodes.length ct,.func (.func 30) #[] #[.pointer (some ⟨g,0,none⟩)]] w fun e w' => e = .returned (.bool (!(nodes.all (okN nodes)))) ∧ Below w.heap.size w w':=by
 have HX:=Lib.hid (find_is g At ct nodes root hF w hE hT hC hct)
 obtain ⟨r,hr⟩ : ∃ r,r = !(nodes.all (okN nodes)):=⟨_,rfl⟩
 rw [← hr]
 rw [← hr] at HX
 clear hF hE hT hC hr
 go_enter Try.func29,Try.ntmps29
 go_wp2_with fail
 refine HX.out.mono ?_
 rintro e_ w1 ⟨v,rfl,HV,hb_⟩
 have HB:=Lib.hid hb_
 clear hb_
 have t1 : decide (0 ≤ v) = r:=HV.out
 go_wp2_with fail
 go_ret
 exact ⟨rfl,HB.out⟩
def rightB (nodes : List S24) (root d : Int) : Bool:=!decide (d > 40) && (rd_T24 nodes root).f0 == 1 && nodes.all (okN nodes)
set_option maxRecDepth 100000 in
set_option maxHeartbeats 8000000 in
theorem right_no (At : Option Addr) (ct : Nat) (nodes : List S24) (root : Int) (w : World) (hC : Kd.C k24 w At nodes.length nodes) (hct : nodes.length ≤ ct) (hs : zAJ.f nodes root = some false) :
  Calls Try.prog 19 #[.agg #[.slice At nodes.length ct,.int .i64 root]] w fun e w' => e = .returned (.bool false) ∧ Below w.heap.size w w':=by
 have hu30:=Try.underlying30
 have hu24:=Try.underlying24
 go_enter Try.func19,Try.ntmps19
 go_wp2_with fail
 refine (zAJ.calls At ct nodes root false _ (Kd.C_alloc hC _) hct hs).mono ?_
 rintro e w1 ⟨rfl,hb1⟩
 have T1:=Aside0.mk (((Below.refl w.heap.size w).alloc (Nat.le_refl _) (.cells #[.slice At nodes.length ct,.int .i64 root] 30 (0,0))).trans (hb1.mono (by simp)))
 go_wp2_with fail
 go_ret
 exact ⟨rfl,T1.out⟩
set_option maxRecDepth 100000 in
set_option maxHeartbeats 8000000 in
theorem right_yes (At : Option Addr) (ct : Nat) (nodes : List S24) (root : Int) (w : World) (hC : Kd.C k24 w At nodes.length nodes) (hct : nodes.length ≤ ct) (hE : Env w) (hF : Fit nodes) (h0 : 0 ≤ root) (h1 : root < nodes.length) (kf : Nat) (d : Int) (hs : zAJ.f nodes root = some true) (hd : zAI.f kf nodes root = some d) :
  Calls Try.prog 19 #[.agg #[.slice At nodes.length ct,.int .i64 root]] w fun e w' => e = .returned (.bool (rightB nodes root d)) ∧ Below w.heap.size w w':=by
 have HF:=Lib.hid hF
 have HE:=Lib.hid hE
 have HC:=Lib.hid hC
 have HS:=Lib.hid hs
 have HD:=Lib.hid hd
 have hu30:=Try.underlying30
 have hu24:=Try.underlying24
 clear hF hE hs hd hC
 obtain ⟨d1,hd1⟩ : ∃ b,b = decide (d > 40):=⟨_,rfl⟩
 have hd1' : decide (40 < d) = d1:=by rw [hd1]
 unfold rightB
 rw [← hd1]
 clear hd1
 obtain ⟨k0,hk0⟩ : ∃ k0,k0 = (rd_T24 nodes root).f0:=⟨_,rfl⟩
 obtain ⟨k1,hk1⟩ : ∃ b,b = (k0 == 1):=⟨_,rfl⟩
 rw [← hk0,← hk1]
 have HK1:=Lib.hid hk1
 have HK0:=Lib.hid hk0
 clear hk0 hk1
 go_enter Try.func19,Try.ntmps19
 go_wp2_with fail
 have hb0 : Below w.heap.size w (w.alloc (.cells #[.slice At nodes.length ct,.int .i64 root] 30)):=zAg (Below.refl _ _) _
 have hbox:=heap_alloc_new w (.cells #[.slice At nodes.length ct,.int .i64 root] 30)
 obtain ⟨W1,hW1⟩ : ∃ W_,W_ = w.alloc (.cells #[.slice At nodes.length ct,.int .i64 root] 30):=⟨_,rfl⟩
 rw [← hW1] at hb0 hbox ⊢
 have HB0:=Lib.hid hb0
 have HX0:=Lib.hid hbox
 clear hW1 hb0 hbox
 refine (zAJ.calls At ct nodes root true _ (Kd.C_below HC.out HB0.out) hct HS.out).mono ?_
 rintro e_ W2 ⟨rfl,hb_⟩
 have HB2:=Lib.hid (zAm HB0.out hb_)
 have HX2 : Hid (W2.heap[w.heap.size]? = some (.cells #[.slice At nodes.length ct,.int .i64 root] 30 (0,0))):=Lib.hid ((hb_.block _ (blk_lt HX0.out)).trans HX0.out)
 clear hb_
 have c2_0 : W2.cell? ⟨w.heap.size,0,none⟩ = some (.slice At nodes.length ct):=(zAf HX2.out 0).trans rfl
 have c2_1 : W2.cell? ⟨w.heap.size,1,none⟩ = some (.int .i64 root):=(zAf HX2.out 1).trans rfl
 go_wp2_with fail
 refine (zAI.calls kf At ct nodes root d _ (Kd.C_below HC.out HB2.out) hct HD.out).mono ?_
 rintro e_ W3 ⟨rfl,hb_⟩
 clear c2_0 c2_1
 have HB3:=Lib.hid (zAm HB2.out hb_)
 have HX3 : Hid (W3.heap[w.heap.size]? = some (.cells #[.slice At nodes.length ct,.int .i64 root] 30 (0,0))):=Lib.hid ((hb_.block _ (blk_lt HX2.out)).trans HX2.out)
 clear hb_
 have c3_0 : W3.cell? ⟨w.heap.size,0,none⟩ = some (.slice At nodes.length ct):=(zAf HX3.out 0).trans rfl
 have c3_1 : W3.cell? ⟨w.heap.size,1,none⟩ = some (.int .i64 root):=(zAf HX3.out 1).trans rfl
 obtain ⟨ad,A4,c4,eA,z0,z1,z2,z3,z4,l4,g4⟩:=at_T24 (Kd.C_below HC.out HB3.out) root h0 h1
 rw [← HK0.out] at z0
 clear z1 z2 z3 z4 l4 g4
 cases eA
 cases d1 with
 | true =>
  go_wp2_with fail
  go_ret
  exact ⟨rfl,HB3.out⟩
 | false =>
  cases k1 with
  | false =>
   have hne : k0 ≠ 1:=by intro h; have hk1:=HK1.out; rw [h] at hk1; cases hk1
   go_wp2_with fail
   go_ret
   exact ⟨by simp,HB3.out⟩
  | true =>
   have heq : k0 = 1:=by have hk1:=HK1.out; by_cases h : k0 = 1; exact h; simp [h] at hk1
   clear HK1 HK0
   subst heq
   go_wp2_with fail
   refine (any_is w.heap.size _ ct nodes root HF.out W3 (HE.out.below HB3.out HE.out.six) HX3.out (Kd.C_below HC.out HB3.out) hct).mono ?_
   rintro e_ W4 ⟨rfl,hb_⟩
   have HB4:=Lib.hid (zAm HB3.out hb_)
   clear hb_
   go_wp2_with fail
   go_ret
   exact ⟨by simp,HB4.out⟩
end Go.Proofs.Ytpggidmpkhmijaa.P
