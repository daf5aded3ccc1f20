import Derived.Test.YtkhlfdcjgooogaaGreatTyT
import Derived.Test.YtkhlfdcjgooogaaGreatHback
import Derived.Test.YtkhlfdcjgooogaaGreatPf103
set_option maxRecDepth 100000
set_option maxHeartbeats 16000000
set_option linter.unusedVariables false
set_option linter.unusedSimpArgs false
set_option linter.unusedSectionVars false
namespace Go.Proofs.YtkhlfdcjgooogaaGreat.P
open Go.RowKit Go.Proofs.YtkhlfdcjgooogaaGreatW.PrintWords Go.Proofs.YtkhlfdcjgooogaaGreatW.PrintLast Go.Proofs.YtkhlfdcjgooogaaGreatW.PrintMore
def tw (a : Int) (L : List Int) (i : Nat) : Nat:=i + rn (fun x => x == a) 4000 L i
theorem tw_yes (a : Int) (L : List Int) (i : Nat) (hi : i < L.length) (hL : L.length ≤ 1000) (h : L[i] = a) : tw a L i = tw a L (i + 1):=by
 have hbig : ∀ (p : Int → Bool) (l : List Int) (m : Nat),l.length ≤ m → runF p m l = runF p (m + 1) l:=by
  intro p l
  induction l with
  | nil => intro m _; cases m <;> rfl
  | cons c l ih =>
   intro m hm
   cases m with
   | zero => simp at hm
   | succ m =>
    rw [runF,runF]
    split
    ·rw [ih m (by simpa using hm)]
    ·rfl
 unfold tw rn
 rw [List.drop_eq_getElem_cons hi,show (4000 : Nat) = 3999 + 1 from rfl,zCM _ _ _ _ (by simp [h]),hbig _ _ 3999 (by simp; omega)]
 omega
theorem tw_no (a : Int) (L : List Int) (i : Nat) (hi : i < L.length) (h : L[i] ≠ a) : tw a L i = i:=by
 unfold tw rn
 rw [List.drop_eq_getElem_cons hi,runF_no _ _ _ _ (by simp [h])]
 omega
theorem tw_end (a : Int) (L : List Int) (i : Nat) (hi : L.length ≤ i) : tw a L i = i:=by
 unfold tw rn
 rw [List.drop_of_length_le hi]
 rfl
theorem tw_le (a : Int) (L : List Int) (i : Nat) (hi : i ≤ L.length) : tw a L i ≤ L.length:=by
 unfold tw rn
 have:=runF_le (fun x => x == a) (L.drop i) 4000
 rw [List.length_drop] at this
 omega
def riseE (L : List Int) (c : Int) (j : Nat) : Bool:=if c = 0 then (j : Int) == (L.length : Int) else if (j : Int) = (L.length : Int) - 1 then rd L (j : Int) == c else false
theorem run_end (p : Int → Bool) : ∀ (L : List Int) (m : Nat),L.length ≤ m → (runF p m L = L.length ↔ L.all p = true)
 | [],m,h => by cases m <;> simp [runF]
 | c :: l,0,h => by simp at h
 | c :: l,m + 1,h => by
  rw [runF,List.all_cons,List.length_cons]
  have ih:=run_end p l m (by simpa using h)
  by_cases hc : p c = true
  ·rw [if_pos hc,hc,Bool.true_and,← ih]
   omega
  ·rw [if_neg hc]
   simp [hc]
theorem fin_run (p : Int → Bool) (L : List Int) (hL : L.length ≤ 1000) : fin L (0 + rn p 4000 L 0) = L.all p:=by
 have:=run_end p L 4000 (by omega)
 rw [Bool.eq_iff_iff,← this]
 simp only [fin,rn,List.drop_zero,beq_iff_eq]
 omega
theorem zAM (L : List Int) (i : Nat) : fin L i = decide (i = L.length):=by
 rw [Bool.eq_iff_iff]; simp [fin]; omega
theorem zAN (p : Int → Bool) (c : Int) (l : List Int) : runF p 1 (c :: l) = if p c = true then 1 else 0:=by
 rw [runF,zCp]
theorem zBm (p : Int → Bool) (c : Int) (l : List Int) : runF p 2 (c :: l) = if p c = true then runF p 1 l + 1 else 0:=rfl
theorem zBi (p : Int → Bool) (m : Nat) : runF p m [] = 0:=by cases m <;> rfl
theorem one_ok : ∀ L : List Int,(if (L.length : Int) = 1 then L.all exB else false) = ((((rn exB 1 L 0 : Nat) : Int) == 1) && fin L (0 + rn exB 1 L 0))
 | [] => by rw [if_neg (by simp)]; rfl
 | [x] => by
  rw [if_pos (by simp),rn,List.drop_zero,zAN,zAM]
  cases h : exB x <;> simp [h]
 | x :: y :: l => by
  rw [if_neg (by simp; omega),rn,List.drop_zero,zAN,zAM]
  cases h : exB x <;> simp [h]
theorem two_ok : ∀ L : List Int,(if (L.length : Int) = 2 then L.all exB else false) = ((((rn exB 2 L 0 : Nat) : Int) == 2) && fin L (0 + rn exB 2 L 0))
 | [] => by rw [if_neg (by simp)]; rfl
 | [x] => by
  rw [if_neg (by simp),rn,List.drop_zero,zBm,zAM,zBi]
  cases h : exB x <;> simp [h]
 | [x,y] => by
  rw [if_pos (by simp),rn,List.drop_zero,zBm,zAM,zAN]
  cases h : exB x <;> cases h2 : exB y <;> simp [h,h2]
 | x :: y :: z :: l => by
  rw [if_neg (by simp; omega),rn,List.drop_zero,zBm,zAM,zAN]
  cases h : exB x <;> cases h2 : exB y <;> simp [h,h2]
theorem three_ok (L : List Int) (j : Nat) (hj : j ≤ L.length) : riseE L 6 j = ((((rn (fun x => x == 6) 1 L j : Nat) : Int) == 1) && fin L (j + rn (fun x => x == 6) 1 L j)):=by
 unfold riseE
 rw [if_neg (by decide),zAM]
 by_cases h : j < L.length
 ·rw [rdN L j h,rn,List.drop_eq_getElem_cons h,zAN]
  by_cases h6 : L[j] = 6
  ·by_cases he : (j : Int) = (L.length : Int) - 1
   ·have : j + 1 = L.length:=by omega
    simp [h6,he,this]
   ·have : ¬ (j + 1 = L.length):=by omega
    simp [h6,he,this]
  ·simp [h6]
 ·rw [if_neg (by omega),rn,List.drop_of_length_le (by omega),zBi]
  rfl
def kR9 : List Int → Bool
 | [a] => a == 18
 | _ => false
def kR10 : List Int → Bool
 | [a,b] => a == 18 && exB b
 | _ => false
def kR11 : List Int → Bool
 | [a,b,c] => exB a && (b == 6 && c == 6)
 | _ => false
def kR12 : List Int → Bool
 | [a,b] => exB a && b == 6
 | _ => false
def kR13 : List Int → Bool
 | a :: l => a == 19 && l.all exB
 | [] => false
def kR16 : List Int → Bool
 | [a,b] => a == 6 && b == 6
 | _ => false
def lenAll (n : Nat) (L : List Int) : Bool:=decide (L.length = n) && L.all exB
def kidR (k : Int) (L : List Int) : Bool :=
 if k = 1 then riseE L 0 (tw 3 L (tw 2 L 0)) else if k = 3 then riseE L 6 (tw 5 L (tw 4 L 0)) else if k = 6 then L.all stB
 else if k = 7 ∨ k = 15 ∨ k = 17 ∨ k = 23 ∨ k = 26 then lenAll 1 L else if k = 8 ∨ k = 27 then lenAll 2 L
 else if k = 9 then kR9 L else if k = 10 then kR10 L else if k = 11 then kR11 L else if k = 12 then kR12 L else if k = 13 then kR13 L
 else if k = 14 then decide (L.length ≤ 1) && L.all exB else if k = 16 then kR16 L else decide (L.length = 0)
theorem k9 (L : List Int) : kR9 L = kidsB_9 L:=by
 match L with
 | [] => rfl
 | [a] => by_cases h : a = 18 <;> simp [kR9,kidsB_9,rn,zAN,fin,h]
 | a :: b :: l => by_cases h : a = 18 <;> simp [kR9,kidsB_9,rn,zAN,zAM,h]
theorem k10 (L : List Int) : kR10 L = zBh L:=by
 match L with
 | [] => rfl
 | [a] => by_cases h : a = 18 <;> simp [kR10,zBh,rn,zAN,zBi,zAM,h]
 | [a,b] => by_cases h : a = 18 <;> cases hb : exB b <;> simp [kR10,zBh,rn,zAN,zBi,zAM,h,hb]
 | a :: b :: c :: l => by_cases h : a = 18 <;> cases hb : exB b <;> simp [kR10,zBh,rn,zAN,zAM,h,hb]
theorem k11 (L : List Int) : kR11 L = zBj L:=by
 match L with
 | [] => rfl
 | [a] => cases h : exB a <;> simp [kR11,zBj,rn,zAN,zBi,zAM,h]
 | [a,b] => cases h : exB a <;> by_cases hb : b = 6 <;> simp [kR11,zBj,rn,zAN,zBm,zBi,zAM,h,hb]
 | [a,b,c] => cases h : exB a <;> by_cases hb : b = 6 <;> by_cases hc : c = 6 <;> simp [kR11,zBj,rn,zAN,zBm,zBi,zAM,h,hb,hc]
 | a :: b :: c :: d :: l => cases h : exB a <;> by_cases hb : b = 6 <;> by_cases hc : c = 6 <;> simp [kR11,zBj,rn,zAN,zBm,zAM,h,hb,hc]
theorem k12 (L : List Int) : kR12 L = zBs L:=by
 match L with
 | [] => rfl
 | [a] => cases h : exB a <;> simp [kR12,zBs,rn,zAN,zBi,zAM,h]
 | [a,b] => cases h : exB a <;> by_cases hb : b = 6 <;> simp [kR12,zBs,rn,zAN,zBm,zBi,zAM,h,hb]
 | a :: b :: c :: l => cases h : exB a <;> by_cases hb : b = 6 <;> simp [kR12,zBs,rn,zAN,zBm,zAM,h,hb]
theorem k16 (L : List Int) : kR16 L = zBI L:=by
 match L with
 | [] => rfl
 | [a] => by_cases h : a = 6 <;> simp [kR16,zBI,rn,zAN,zBm,zBi,zAM,h]
 | [a,b] => by_cases h : a = 6 <;> by_cases hb : b = 6 <;> simp [kR16,zBI,rn,zAN,zBm,zBi,zAM,h,hb]
 | a :: b :: c :: l => by_cases h : a = 6 <;> by_cases hb : b = 6 <;> simp [kR16,zBI,rn,zAN,zBm,zAM,h,hb]
theorem k14 (L : List Int) : (decide (L.length ≤ 1) && L.all exB) = zBz L:=by
 match L with
 | [] => rfl
 | [a] => cases h : exB a <;> simp [zBz,rn,zAN,zAM,h]
 | a :: b :: l => cases h : exB a <;> simp [zBz,rn,zAN,zAM,h]
theorem k13 (L : List Int) (hL : L.length ≤ 1000) : kR13 L = zBr L:=by
 match L with
 | [] => simp [kR13,zBr,rn,runF]
 | a :: l =>
  have hl : l.length ≤ 1000:=by simp at hL; omega
  by_cases h : a = 19
  ·have:=run_end exB l 4000 (by omega)
   rw [Bool.eq_iff_iff]
   simp [kR13,zBr,rn,zAN,zAM,h]
   have h2:=this
   simp at h2
   rw [← h2]
   omega
  ·simp [kR13,zBr,rn,zAN,zAM,h]
theorem zCs (L : List Int) : lenAll 1 L = ((((rn exB 1 L 0 : Nat) : Int) == 1) && fin L (0 + rn exB 1 L 0)):=by
 rw [← one_ok]; unfold lenAll
 by_cases h : L.length = 1
 ·rw [decide_eq_true h,if_pos (by omega),Bool.true_and]
 ·rw [decide_eq_false h,if_neg (by omega),Bool.false_and]
theorem lenAll_2 (L : List Int) : lenAll 2 L = ((((rn exB 2 L 0 : Nat) : Int) == 2) && fin L (0 + rn exB 2 L 0)):=by
 rw [← two_ok]; unfold lenAll
 by_cases h : L.length = 2
 ·rw [decide_eq_true h,if_pos (by omega),Bool.true_and]
 ·rw [decide_eq_false h,if_neg (by omega),Bool.false_and]
theorem kid0 (L : List Int) : decide (L.length = 0) = fin L 0:=by rw [zAM]; simp [eq_comm]
theorem kidR_eq (k : Int) (L : List Int) (hL : L.length ≤ 1000) (h1 : 1 ≤ k) (h2 : k ≤ 27) : kidR k L = kidsB k L:=by
 have hk : k = 1 ∨ k = 2 ∨ k = 3 ∨ k = 4 ∨ k = 5 ∨ k = 6 ∨ k = 7 ∨ k = 8 ∨ k = 9 ∨ k = 10 ∨ k = 11 ∨ k = 12 ∨ k = 13 ∨ k = 14 ∨ k = 15 ∨ k = 16 ∨ k = 17 ∨ k = 18 ∨ k = 19 ∨ k = 20 ∨ k = 21 ∨ k = 22 ∨ k = 23 ∨ k = 24 ∨ k = 25 ∨ k = 26 ∨ k = 27:=by omega
 rcases hk with rfl | rfl | rfl | rfl | rfl | rfl | rfl | rfl | rfl | rfl | rfl | rfl | rfl | rfl | rfl | rfl | rfl | rfl | rfl | rfl | rfl | rfl | rfl | rfl | rfl | rfl | rfl
 ·rfl
 ·exact kid0 L
 ·exact three_ok L _ (tw_le _ _ _ (tw_le _ _ _ (Nat.zero_le _)))
 ·exact kid0 L
 ·exact kid0 L
 ·exact (fin_run stB L hL).symm
 ·exact zCs L
 ·exact lenAll_2 L
 ·exact k9 L
 ·exact k10 L
 ·exact k11 L
 ·exact k12 L
 ·exact k13 L hL
 ·exact k14 L
 ·exact zCs L
 ·exact k16 L
 ·exact zCs L
 ·exact kid0 L
 ·exact kid0 L
 ·exact kid0 L
 ·exact kid0 L
 ·exact kid0 L
 ·exact zCs L
 ·exact kid0 L
 ·exact kid0 L
 ·exact zCs L
 ·exact lenAll_2 L
attribute [local go_sem] zAP zAQ max_two min_two zAK zAJ zAS zAR
def zAX.f (a0 : Int) : Option (Bool):=if a0 ≥ 7 then (some (decide (a0 ≤ 17))) else (some false)
theorem zAX.calls (a0 : Int) (r : Bool) (w : World) (h : zAX.f a0 = some r) :
  Calls Tryz.prog 130 #[.int .i64 a0] w fun e w' => e = .returned (.bool r) ∧ Drawn0 w w':=by
 have H : (if a0 ≥ 7 then (some (decide (a0 ≤ 17))) else (some false)) = some r:=h
 clear h
 by_cases c2 : a0 ≥ 7
 ·rw [if_pos c2] at H
  have c2b0 : decide (7 ≤ a0) = true:=decide_eq_true c2
  clear c2
  obtain rfl:=Option.some.inj H
  go_enter Tryz.func130,Tryz.ntmps130
  go_wp2
  go_ret
  exact ⟨by first | rfl | (simp; done) | (simp [*]; done),by repeat (first | exact Drawn0.refl _ | apply Drawn0.step)⟩
 ·rw [if_neg c2] at H
  have c2b0 : decide (7 ≤ a0) = false:=decide_eq_false c2
  clear c2
  obtain rfl:=Option.some.inj H
  go_enter Tryz.func130,Tryz.ntmps130
  go_wp2
  go_ret
  exact ⟨by first | rfl | (simp; done) | (simp [*]; done),by repeat (first | exact Drawn0.refl _ | apply Drawn0.step)⟩
def zAV.f (a0 : Int) : Option (Bool):=if a0 ≥ 20 then (some (decide (a0 ≤ 27))) else (some false)
theorem zAV.calls (a0 : Int) (r : Bool) (w : World) (h : zAV.f a0 = some r) :
  Calls Tryz.prog 132 #[.int .i64 a0] w fun e w' => e = .returned (.bool r) ∧ Drawn0 w w':=by
 have H : (if a0 ≥ 20 then (some (decide (a0 ≤ 27))) else (some false)) = some r:=h
 clear h
 by_cases c2 : a0 ≥ 20
 ·rw [if_pos c2] at H
  have c2b0 : decide (20 ≤ a0) = true:=decide_eq_true c2
  clear c2
  obtain rfl:=Option.some.inj H
  go_enter Tryz.func132,Tryz.ntmps132
  go_wp2
  go_ret
  exact ⟨by first | rfl | (simp; done) | (simp [*]; done),by repeat (first | exact Drawn0.refl _ | apply Drawn0.step)⟩
 ·rw [if_neg c2] at H
  have c2b0 : decide (20 ≤ a0) = false:=decide_eq_false c2
  clear c2
  obtain rfl:=Option.some.inj H
  go_enter Tryz.func132,Tryz.ntmps132
  go_wp2
  go_ret
  exact ⟨by first | rfl | (simp; done) | (simp [*]; done),by repeat (first | exact Drawn0.refl _ | apply Drawn0.step)⟩
end Go.Proofs.YtkhlfdcjgooogaaGreat.P
