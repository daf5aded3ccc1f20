import Derived.Test.YtkhlfdcjgooogaaGreatPf103
import Derived.Test.YtkhlfdcjgooogaaGreatHback
import Derived.Test.YtkhlfdcjgooogaaGreatPf127
import Derived.Test.YtkhlfdcjgooogaaGreatPf138
import Derived.Test.YtkhlfdcjgooogaaGreatWMore
import Derived.Test.YtkhlfdcjgooogaaGreatTyT
set_option maxRecDepth 100000
set_option maxHeartbeats 16000000
set_option linter.unusedVariables false
set_option linter.unusedSimpArgs false
set_option linter.unusedSectionVars false
namespace Go.Proofs.YtkhlfdcjgooogaaGreat.P
open Go.RowKit Go.Proofs.YtkhlfdcjgooogaaGreatW.PrintWords Go.Proofs.YtkhlfdcjgooogaaGreatW.PrintLast Go.Proofs.YtkhlfdcjgooogaaGreatW.PrintMore
attribute [local go_sem] zAP zAQ max_two min_two zAK zAJ zAS zAR
def zAx.l0 : Nat → ByteArray → List ByteArray → Int → Option (Bool)
 | 0,_,_,_ => none
 | k + 1,x0,x3,x4 => if x4 < (x3.length : Int) then (if 0 ≤ x4 then (if (rdOf ByteArray.empty x3 x4).toList = x0.toList then (some true) else (zAx.l0 k x0 x3 (wrap64 (x4 + 1)))) else (none)) else (some false)
def zAx.f (k : Nat) (a0 : ByteArray) : Option (Bool):=zAx.l0 k a0 (([(⟨#[43]⟩ : ByteArray),(⟨#[45]⟩ : ByteArray),(⟨#[42]⟩ : ByteArray),(⟨#[47]⟩ : ByteArray),(⟨#[37]⟩ : ByteArray),(⟨#[61,61]⟩ : ByteArray),(⟨#[33,61]⟩ : ByteArray),(⟨#[60]⟩ : ByteArray),(⟨#[60,61]⟩ : ByteArray),(⟨#[62]⟩ : ByteArray),(⟨#[62,61]⟩ : ByteArray),(⟨#[38,38]⟩ : ByteArray),(⟨#[124,124]⟩ : ByteArray)] : List ByteArray)) 0
theorem zAx.calls (k : Nat) (a0 : ByteArray) (r : Bool) (w : World) (h : zAx.f k a0 = some r) :
  Calls Tryz.prog 128 #[.string a0] w fun e w' => e = .returned (.bool r) ∧ Below w.heap.size w w':=by
 have HB:=Aside0.mk (Below.refl w.heap.size w)
 have H : (zAx.l0 k a0 (([(⟨#[43]⟩ : ByteArray),(⟨#[45]⟩ : ByteArray),(⟨#[42]⟩ : ByteArray),(⟨#[47]⟩ : ByteArray),(⟨#[37]⟩ : ByteArray),(⟨#[61,61]⟩ : ByteArray),(⟨#[33,61]⟩ : ByteArray),(⟨#[60]⟩ : ByteArray),(⟨#[60,61]⟩ : ByteArray),(⟨#[62]⟩ : ByteArray),(⟨#[62,61]⟩ : ByteArray),(⟨#[38,38]⟩ : ByteArray),(⟨#[124,124]⟩ : ByteArray)] : List ByteArray)) 0) = some r:=h
 clear h
 obtain ⟨y243,hy243⟩ : ∃ y_ : List ByteArray,y_ = (([(⟨#[43]⟩ : ByteArray),(⟨#[45]⟩ : ByteArray),(⟨#[42]⟩ : ByteArray),(⟨#[47]⟩ : ByteArray),(⟨#[37]⟩ : ByteArray),(⟨#[61,61]⟩ : ByteArray),(⟨#[33,61]⟩ : ByteArray),(⟨#[60]⟩ : ByteArray),(⟨#[60,61]⟩ : ByteArray),(⟨#[62]⟩ : ByteArray),(⟨#[62,61]⟩ : ByteArray),(⟨#[38,38]⟩ : ByteArray),(⟨#[124,124]⟩ : ByteArray)] : List ByteArray)):=⟨_,rfl⟩
 replace H : (zAx.l0 k a0 y243 0) = some r:=by first | (rw [hy243]; with_reducible exact H) | (have H2_:=(Option.bind_some _ _).symm.trans H; rw [hy243]; with_reducible exact H2_) | (have H2_:=(Option.bind_some _ _).symm.trans H; with_reducible exact H2_) | with_reducible exact H | (rw [hy243]; exact H) | exact H
 have Ny243:=Aside0.mk hy243
 clear hy243
 have H':=Aside0.mk H
 clear H
 go_enter Tryz.func128,Tryz.ntmps128
 go_wp2_with (first | ((with_reducible refine zAZ (N:=5) rfl ?_); refine Kd.R_lit Kd.string _ 9 ?hg (N:=5) ?hd (xs:=([(⟨#[43]⟩ : ByteArray),(⟨#[45]⟩ : ByteArray),(⟨#[42]⟩ : ByteArray),(⟨#[47]⟩ : ByteArray),(⟨#[37]⟩ : ByteArray),(⟨#[61,61]⟩ : ByteArray),(⟨#[33,61]⟩ : ByteArray),(⟨#[60]⟩ : ByteArray),(⟨#[60,61]⟩ : ByteArray),(⟨#[62]⟩ : ByteArray),(⟨#[62,61]⟩ : ByteArray),(⟨#[38,38]⟩ : ByteArray),(⟨#[124,124]⟩ : ByteArray)] : List ByteArray)) (inner:=[.string (⟨#[43]⟩ : ByteArray),.string (⟨#[45]⟩ : ByteArray),.string (⟨#[42]⟩ : ByteArray),.string (⟨#[47]⟩ : ByteArray),.string (⟨#[37]⟩ : ByteArray),.string (⟨#[61,61]⟩ : ByteArray),.string (⟨#[33,61]⟩ : ByteArray),.string (⟨#[60]⟩ : ByteArray),.string (⟨#[60,61]⟩ : ByteArray),.string (⟨#[62]⟩ : ByteArray),.string (⟨#[62,61]⟩ : ByteArray),.string (⟨#[38,38]⟩ : ByteArray),.string (⟨#[124,124]⟩ : ByteArray)]) (ok:=fun _ => True) (okp:=fun _ => True) ?hr ?hp (fun _ hk => hk) trivial (Below.refl _ _) (Nat.le_refl _) (by simp) ?_; (case hd => rfl); (case hg => rfl); (case hr => first | (go_simp; done) | (go_simp; rfl)); (case hp => exact (Reps.one (show Kd.M Kd.string _ _ _ (⟨#[43]⟩ : ByteArray) [.string (⟨#[43]⟩ : ByteArray)] from rfl) (Reps.one (show Kd.M Kd.string _ _ _ (⟨#[45]⟩ : ByteArray) [.string (⟨#[45]⟩ : ByteArray)] from rfl) (Reps.one (show Kd.M Kd.string _ _ _ (⟨#[42]⟩ : ByteArray) [.string (⟨#[42]⟩ : ByteArray)] from rfl) (Reps.one (show Kd.M Kd.string _ _ _ (⟨#[47]⟩ : ByteArray) [.string (⟨#[47]⟩ : ByteArray)] from rfl) (Reps.one (show Kd.M Kd.string _ _ _ (⟨#[37]⟩ : ByteArray) [.string (⟨#[37]⟩ : ByteArray)] from rfl) (Reps.one (show Kd.M Kd.string _ _ _ (⟨#[61,61]⟩ : ByteArray) [.string (⟨#[61,61]⟩ : ByteArray)] from rfl) (Reps.one (show Kd.M Kd.string _ _ _ (⟨#[33,61]⟩ : ByteArray) [.string (⟨#[33,61]⟩ : ByteArray)] from rfl) (Reps.one (show Kd.M Kd.string _ _ _ (⟨#[60]⟩ : ByteArray) [.string (⟨#[60]⟩ : ByteArray)] from rfl) (Reps.one (show Kd.M Kd.string _ _ _ (⟨#[60,61]⟩ : ByteArray) [.string (⟨#[60,61]⟩ : ByteArray)] from rfl) (Reps.one (show Kd.M Kd.string _ _ _ (⟨#[62]⟩ : ByteArray) [.string (⟨#[62]⟩ : ByteArray)] from rfl) (Reps.one (show Kd.M Kd.string _ _ _ (⟨#[62,61]⟩ : ByteArray) [.string (⟨#[62,61]⟩ : ByteArray)] from rfl) (Reps.one (show Kd.M Kd.string _ _ _ (⟨#[38,38]⟩ : ByteArray) [.string (⟨#[38,38]⟩ : ByteArray)] from rfl) (Reps.one (show Kd.M Kd.string _ _ _ (⟨#[124,124]⟩ : ByteArray) [.string (⟨#[124,124]⟩ : ByteArray)] from rfl) (Reps.none _ _))))))))))))))); intro v244 w2 ho3 hb hg_ hnew_; clear hg_ hnew_; (first | rw [← Ny243.out] at ho3 | (simp only [Int.reduceToNat] at ho3; rw [← Ny243.out] at ho3)); have n0_:=Aside0.mk (Kd.R_lower ho3 (zAy (by repeat (first | (with_reducible first | exact HB.out | apply zAa | apply zAf | apply zAi) | exact HB.out)))); have n1_:=Aside0.mk (zAd (by repeat (first | (with_reducible first | exact HB.out | apply zAa | apply zAf | apply zAi) | exact HB.out)) hb); clear HB; have HO245:=n0_; have HB:=n1_; clear n0_ n1_; clear hb ho3))
 go_loopg [4] k (fun kq v4 w' => ∃ (x4_1 : Int),v4 = .int .i64 x4_1 ∧ Aside0 (zAx.l0 kq a0 y243 x4_1 = some r) ∧ Aside0 (kq ≤ k) ∧ Aside0 (Kd.R Kd.string 9 w' w.heap.size (fun _ => True) v244 y243) ∧ Aside0 (Below w.heap.size w w'))
 case atStart => exact ⟨(0),(by first | rfl | (simp; done) | (simp [*]; done)),H',⟨Nat.le_refl _⟩,⟨by (with_reducible repeat (first | apply Kd.R_alloc | apply Kd.R_drewN | apply Kd.R_drew)); exact HO245.out⟩,⟨by repeat (first | (with_reducible first | exact HB.out | apply zAa | apply zAf | apply zAi) | exact HB.out)⟩⟩
 case round =>
  clear H'
  try clear c1
  try clear p2
  obtain ⟨x4_1,rfl,HA,HK1,HO_3,HB⟩:=hrel
  cases gk with
  | zero => exact absurd HA.out (by simp [zAx.l0])
  | succ k1 =>
   have H:=HA.out
   clear HA
   simp only [zAx.l0] at H
   by_cases c4 : x4_1 < (y243.length : Int)
   ·rw [if_pos c4] at H
    have c4b0 : decide (x4_1 < (y243.length : Int)) = true:=decide_eq_true c4
    clear c4
    by_cases c5 : 0 ≤ x4_1
    ·rw [if_pos c5] at H
     have c5b0 : decide (0 ≤ x4_1) = true:=decide_eq_true c5
     clear c5
     by_cases c6 : (rdOf ByteArray.empty y243 x4_1).toList = a0.toList
     ·rw [if_pos c6] at H
      have c6b0 : ((rdOf ByteArray.empty y243 x4_1).toList == a0.toList) = true:=beq_iff_eq.mpr c6
      have c6b1 : ((rdOf ByteArray.empty y243 x4_1).toList != a0.toList) = false:=bne_eq_false_iff_eq.mpr c6
      clear c6
      obtain rfl:=Option.some.inj H
      obtain ⟨Ao7,co7,eo7⟩:=Kd.R_slice HO_3.out
      subst eo7
      have p246 : 0 ≤ (x4_1 : Int):=of_decide_eq_true (by first | (with_reducible assumption) | assumption)
      have q246 : x4_1 < (y243.length : Int):=of_decide_eq_true (by first | (with_reducible assumption) | assumption)
      obtain ⟨ad246,e246,hx246_0⟩:=Kd.zBM (Kd.zBA HO_3.out).2.2 x4_1 p246 q246
      cases e246
      replace p246:=eq_true p246
      replace q246:=eq_true q246
      go_wp2
      go_ret
      exact ⟨by first | rfl | (simp [zAs,zAt] <;> rfl) | (simp [*,zAs,zAt] <;> rfl),by repeat (first | (with_reducible first | exact HB.out | apply zAa | apply zAf | apply zAi) | exact HB.out)⟩
     ·rw [if_neg c6] at H
      have c6b0 : ((rdOf ByteArray.empty y243 x4_1).toList == a0.toList) = false:=beq_eq_false_iff_ne.mpr c6
      have c6b1 : ((rdOf ByteArray.empty y243 x4_1).toList != a0.toList) = true:=bne_iff_ne.mpr c6
      have H':=Aside0.mk H
      clear H
      obtain ⟨Ao8,co8,eo8⟩:=Kd.R_slice HO_3.out
      subst eo8
      have p246 : 0 ≤ (x4_1 : Int):=of_decide_eq_true (by first | (with_reducible assumption) | assumption)
      have q246 : x4_1 < (y243.length : Int):=of_decide_eq_true (by first | (with_reducible assumption) | assumption)
      obtain ⟨ad246,e246,hx246_0⟩:=Kd.zBM (Kd.zBA HO_3.out).2.2 x4_1 p246 q246
      cases e246
      replace p246:=eq_true p246
      replace q246:=eq_true q246
      go_wp2
      go_roundg k1
      case measure => have:=HK1.out; omega
      case rel => exact ⟨(wrap64 (x4_1 + 1)),(by first | rfl | (simp; done) | (simp [*]; done)),H',⟨by have:=HK1.out; omega⟩,⟨by (with_reducible repeat (first | apply Kd.R_alloc | apply Kd.R_drewN | apply Kd.R_drew)); exact HO_3.out⟩,⟨by repeat (first | (with_reducible first | exact HB.out | apply zAa | apply zAf | apply zAi) | exact HB.out)⟩⟩
    ·rw [if_neg c5] at H
     exact absurd H (by simp)
   ·rw [if_neg c4] at H
    have c4b0 : decide (x4_1 < (y243.length : Int)) = false:=decide_eq_false c4
    clear c4
    obtain rfl:=Option.some.inj H
    obtain ⟨Ao9,co9,eo9⟩:=Kd.R_slice HO_3.out
    subst eo9
    go_wp2
    go_ret
    exact ⟨by first | rfl | (simp [zAs,zAt] <;> rfl) | (simp [*,zAs,zAt] <;> rfl),by repeat (first | (with_reducible first | exact HB.out | apply zAa | apply zAf | apply zAi) | exact HB.out)⟩
open Go.RowKit Go.Proofs.YtkhlfdcjgooogaaGreatW.PrintWords
theorem while_sep (p : UInt8 → Bool) (d : UInt8) (hp : p d = false) (b : List UInt8) : ∀ a : List UInt8,(a ++ d :: b).takeWhile p = a.takeWhile p
 | [] => by rw [List.nil_append,List.takeWhile_cons,if_neg (by simp [hp])]; rfl
 | c :: a => by
  by_cases h : p c = true
  ·rw [List.cons_append,List.takeWhile_cons,if_pos h,while_sep p d hp b a,List.takeWhile_cons,if_pos h]
  ·rw [List.cons_append,List.takeWhile_cons,if_neg h,List.takeWhile_cons,if_neg h]
theorem run_all (p : UInt8 → Bool) : ∀ l : List UInt8,l.all p = true → l.takeWhile p = l
 | [],_ => rfl
 | c :: l,h => by
  simp only [List.all_cons,Bool.and_eq_true] at h
  rw [List.takeWhile_cons,if_pos h.1,run_all p l h.2]
theorem zBV (s : ByteArray) : (spaced s).data.toList = 32 :: (s.data.toList ++ [32]):=by
 simp [spaced,ByteArray.data_append]
def keptWords : List ByteArray:=[(⟨#[118,97,114]⟩ : ByteArray),(⟨#[112,114,111,99]⟩ : ByteArray),(⟨#[105,110,116]⟩ : ByteArray),(⟨#[98,111,111,108]⟩ : ByteArray),(⟨#[97,114,114]⟩ : ByteArray),(⟨#[102,117,110]⟩ : ByteArray),(⟨#[105,110]⟩ : ByteArray),(⟨#[111,117,116]⟩ : ByteArray),(⟨#[105,102]⟩ : ByteArray),(⟨#[101,108,115,101]⟩ : ByteArray),(⟨#[119,104,105,108,101]⟩ : ByteArray),(⟨#[99,97,108,108]⟩ : ByteArray),(⟨#[114,101,116,117,114,110]⟩ : ByteArray),(⟨#[116,104,114,111,119]⟩ : ByteArray),(⟨#[116,114,121]⟩ : ByteArray),(⟨#[99,97,116,99,104]⟩ : ByteArray),(⟨#[110,101,119]⟩ : ByteArray),(⟨#[108,101,110]⟩ : ByteArray),(⟨#[116,114,117,101]⟩ : ByteArray),(⟨#[102,97,108,115,101]⟩ : ByteArray)]
def wordsL : List (List UInt8):=keptWords.map (·.data.toList)
theorem pieces_ok : ((List.range keptText.data.toList.length).all fun i => !((keptText.data.toList.drop i).head? == some 32) || (((keptText.data.toList.drop i).drop 1).takeWhile (fun c => c != 32)).isEmpty || wordsL.contains (((keptText.data.toList.drop i).drop 1).takeWhile (fun c => c != 32))) = true:=by kernel_rfl
theorem words_in : (wordsL.all fun x => Lib.contains keptText.data.toList (32 :: (x ++ [32])) && !x.contains 32 && !x.isEmpty) = true:=by kernel_rfl
theorem take_not (x y : List UInt8) (h : (32 : UInt8) ∉ x) : (x ++ 32 :: y).takeWhile (fun c => c != 32) = x:=by
 rw [while_sep _ 32 rfl]
 exact run_all _ _ (List.all_eq_true.2 fun c hc => by
  have : c ≠ 32:=fun e => h (e ▸ hc)
  simpa using this)
theorem kept_words (s : ByteArray) : keptB s = wordsL.contains s.data.toList:=by
 rw [Bool.eq_iff_iff]
 constructor
 ·intro h
  simp only [keptB,Bool.and_eq_true,decide_eq_true_eq,Bool.not_eq_true'] at h
  obtain ⟨⟨h0,h1⟩,h2⟩:=h
  have hn : (32 : UInt8) ∉ s.data.toList:=by
   intro hm
   have : hasB s 32 = true:=by simpa [hasB] using hm
   rw [h1] at this; cases this
  have hne : s.data.toList ≠ []:=by
   intro e
   have:=zBt s
   rw [e] at this
   exact h0 (by simpa using this.symm)
  rcases Lib.index_spec keptText.data.toList (spaced s).data.toList with ⟨h3,_⟩ | ⟨i,h3,h4,h5,_⟩
  ·simp [Lib.contains,h3] at h2
  ·have h6 : (spaced s).data.toList <+: keptText.data.toList.drop i:=by simpa [Lib.occAt] using h5
   rw [zBV] at h6
   obtain ⟨y,hy⟩:=h6
   have hd : (keptText.data.toList.drop i).drop 1 = s.data.toList ++ 32 :: y:=by rw [← hy]; simp
   have hh : (keptText.data.toList.drop i).head? = some 32:=by rw [← hy]; rfl
   have hi : i < keptText.data.toList.length:=by
    rcases Nat.lt_or_ge i keptText.data.toList.length with h | h
    ·exact h
    ·rw [List.drop_of_length_le h] at hh; cases hh
   have:=List.all_eq_true.1 pieces_ok i (List.mem_range.2 hi)
   rw [hd,take_not _ _ hn,hh] at this
   cases hsl : s.data.toList with
   | nil => exact absurd hsl hne
   | cons a b =>
    rw [hsl] at this
    simpa using this
 ·intro h
  have hm : s.data.toList ∈ wordsL:=by simpa using h
  have:=List.all_eq_true.1 words_in _ hm
  simp only [Bool.and_eq_true] at this
  obtain ⟨⟨h1,h2⟩,h3⟩:=this
  have hne : s.size ≠ 0:=by
   intro e
   have:=zBt s
   rw [e] at this
   have:=List.eq_nil_of_length_eq_zero this
   rw [this] at h3; cases h3
  simp only [keptB,Bool.and_eq_true,decide_eq_true_eq]
  refine ⟨⟨hne,?_⟩,by rw [zBV]; exact h1⟩
  rw [hasB]; exact h2
theorem rdw_at (l : List ByteArray) (i : Nat) (h : i < l.length) : rdOf ByteArray.empty l (i : Int) = l[i]:=by
 simp [rdOf,List.getD_eq_getElem?_getD,h]
theorem kept_loop (s : ByteArray) (l : List ByteArray) (hm : l.length ≤ 1000) : ∀ (n i : Nat),l.length ≤ n + i → i ≤ l.length → zAv.l0 (n + 1) s l (i : Int) = some (((l.drop i).map (·.data.toList)).contains s.data.toList)
 | 0,i,hn,hi => by
  rw [zAv.l0,if_neg (by omega),List.drop_of_length_le (by omega)]; rfl
 | n + 1,i,hn,hi => by
  rw [zAv.l0]
  by_cases hlt : i < l.length
  ·rw [if_pos (by omega),if_pos (by omega),rdw_at l i hlt,List.drop_eq_getElem_cons hlt,List.map_cons,zAI,zAI]
   by_cases he : l[i].data.toList = s.data.toList
   ·rw [if_pos he,he]; simp
   ·have hw : wrap64 ((i : Int) + 1) = ((i + 1 : Nat) : Int):=by unfold wrap64; omega
    rw [if_neg he,hw,kept_loop s l hm n (i + 1) (by omega) (by omega)]
    have hb : (s.data.toList == l[i].data.toList) = false:=beq_eq_false_iff_ne.2 (fun e => he e.symm)
    rw [List.contains_cons,hb,Bool.false_or]
  ·rw [if_neg (by omega),List.drop_of_length_le (by omega)]; rfl
theorem ref_kept (s : ByteArray) (n : Nat) (hn : 21 ≤ n) : zAv.f n s = some (keptB s):=by
 obtain ⟨m,rfl⟩ : ∃ m,n = m + 1:=⟨n - 1,by omega⟩
 rw [kept_words,zAv.f]
 exact kept_loop s keptWords (by decide) m 0 (by show 20 ≤ m + 0; omega) (Nat.zero_le _)
def allBytes (p : UInt8 → Bool) : Bool:=(List.range 256).all fun i => p (UInt8.ofNat i)
theorem all_bytes {p : UInt8 → Bool} (h : allBytes p = true) (c : UInt8) : p c = true:=by
 have:=List.all_eq_true.1 h c.toNat (List.mem_range.2 (UInt8.toNat_lt c))
 simpa using this
theorem part_all : allBytes (fun c => zAY.f (c.toNat : Int) == some (hasB partsT c)) = true:=by kernel_rfl
theorem digit_all : allBytes (fun c => zAw.f (c.toNat : Int) == some (hasB digitsT c)) = true:=by kernel_rfl
theorem ref_part (c : UInt8) : zAY.f (c.toNat : Int) = some (hasB partsT c):=by simpa using all_bytes part_all c
theorem ref_digit (c : UInt8) : zAw.f (c.toNat : Int) = some (hasB digitsT c):=by simpa using all_bytes digit_all c
theorem bt_nat (s : ByteArray) (i : Nat) (h : i < s.size) : bt s (i : Int) = (s[i].toNat : Int):=by
 unfold bt
 rw [dif_pos (by simpa using h)]
 simp
def identEnd (s : ByteArray) : Bool:=decide (1 ≤ s.size) && decide (s.size ≤ 20) && !hasB digitsT (s.data.getD 0 0) && !keptB s
theorem ident_end (s : ByteArray) (k : Nat) (hk : 21 ≤ k) : ((zAv.f k s).bind fun t147 => (if (s.size : Int) ≥ 1 then (if (s.size : Int) ≤ 20 then (if 0 < (s.size : Int) then ((zAw.f (bt s 0)).bind fun t148 => (if t148 = true then (some false) else (some (!t147)))) else (none)) else (some false)) else (some false))) = some (identEnd s):=by
 rw [ref_kept s k hk]
 show (if (s.size : Int) ≥ 1 then _ else _) = _
 by_cases h1 : 1 ≤ s.size
 ·rw [if_pos (by omega)]
  by_cases h2 : s.size ≤ 20
  ·have h0 : bt s 0 = (s[0].toNat : Int):=bt_nat s 0 (by omega)
   rw [if_pos (by omega),if_pos (by omega),h0,ref_digit,zDn s (by omega)]
   show (if hasB digitsT (s.data.getD 0 0) = true then _ else _) = _
   unfold identEnd
   rw [decide_eq_true h1,decide_eq_true h2]
   cases hasB digitsT (s.data.getD 0 0) <;> simp
  ·rw [if_neg (by omega)]
   simp [identEnd,h2]
 ·rw [if_neg (by omega)]
  simp [identEnd,h1]
theorem ident_loop (s : ByteArray) (hm : s.size ≤ 1000000) : ∀ (n i : Nat),25 + s.size ≤ n + i → i ≤ s.size → zAB.l0 (n + 1) s (i : Int) = some ((s.data.toList.drop i).all (hasB partsT) && identEnd s)
 | 0,i,hn,hi => by omega
 | n + 1,i,hn,hi => by
  rw [zAB.l0]
  by_cases hlt : i < s.size
  ·have hw : wrap64 ((i : Int) + 1) = ((i + 1 : Nat) : Int):=by unfold wrap64; omega
   rw [if_pos (by omega),if_pos (by omega),bt_nat s i hlt,ref_part,drop_at s i hlt,List.all_cons]
   show (if hasB partsT s[i] = true then _ else _) = _
   by_cases hp : hasB partsT s[i] = true
   ·rw [if_pos hp,hw,ident_loop s hm n (i + 1) (by omega) (by omega),hp]; rfl
   ·rw [if_neg hp]; simp [hp]
  ·rw [if_neg (by omega),ident_end s _ (by omega),List.drop_of_length_le (by rw [zBt]; omega)]; rfl
theorem ref_ident (s : ByteArray) (hm : s.size ≤ 1000000) (n : Nat) (hn : 26 + s.size ≤ n) : zAB.f n s = some (identB s):=by
 obtain ⟨m,rfl⟩ : ∃ m,n = m + 1:=⟨n - 1,by omega⟩
 have:=ident_loop s hm m 0 (by omega) (Nat.zero_le _)
 rw [zAB.f]
 refine this.trans ?_
 rw [List.drop_zero]
 unfold identB identEnd onlyB
 have e : decide (1 ≤ s.size) = decide (s.size ≠ 0):=decide_eq_decide.2 (by omega)
 rw [e]
 cases decide (s.size ≠ 0) <;> cases decide (s.size ≤ 20) <;> cases s.data.toList.all (hasB partsT) <;> rfl
def signWords : List ByteArray:=[(⟨#[43]⟩ : ByteArray),(⟨#[45]⟩ : ByteArray),(⟨#[42]⟩ : ByteArray),(⟨#[47]⟩ : ByteArray),(⟨#[37]⟩ : ByteArray),(⟨#[61,61]⟩ : ByteArray),(⟨#[33,61]⟩ : ByteArray),(⟨#[60]⟩ : ByteArray),(⟨#[60,61]⟩ : ByteArray),(⟨#[62]⟩ : ByteArray),(⟨#[62,61]⟩ : ByteArray),(⟨#[38,38]⟩ : ByteArray),(⟨#[124,124]⟩ : ByteArray)]
def signsL : List (List UInt8):=signWords.map (·.data.toList)
theorem spieces_ok : ((List.range signsT.data.toList.length).all fun i => !((signsT.data.toList.drop i).head? == some 32) || (((signsT.data.toList.drop i).drop 1).takeWhile (fun c => c != 32)).isEmpty || signsL.contains (((signsT.data.toList.drop i).drop 1).takeWhile (fun c => c != 32))) = true:=by kernel_rfl
theorem signs_in : (signsL.all fun x => Lib.contains signsT.data.toList (32 :: (x ++ [32])) && !x.contains 32 && !x.isEmpty) = true:=by kernel_rfl
theorem signed_words (s : ByteArray) : signedB s = signsL.contains s.data.toList:=by
 rw [Bool.eq_iff_iff]
 constructor
 ·intro h
  simp only [signedB,Bool.and_eq_true,decide_eq_true_eq,Bool.not_eq_true'] at h
  obtain ⟨⟨h0,h1⟩,h2⟩:=h
  have hn : (32 : UInt8) ∉ s.data.toList:=by
   intro hm
   have : hasB s 32 = true:=by simpa [hasB] using hm
   rw [h1] at this; cases this
  have hne : s.data.toList ≠ []:=by
   intro e
   have:=zBt s
   rw [e] at this
   exact h0 (by simpa using this.symm)
  rcases Lib.index_spec signsT.data.toList (spaced s).data.toList with ⟨h3,_⟩ | ⟨i,h3,h4,h5,_⟩
  ·simp [Lib.contains,h3] at h2
  ·have h6 : (spaced s).data.toList <+: signsT.data.toList.drop i:=by simpa [Lib.occAt] using h5
   rw [zBV] at h6
   obtain ⟨y,hy⟩:=h6
   have hd : (signsT.data.toList.drop i).drop 1 = s.data.toList ++ 32 :: y:=by rw [← hy]; simp
   have hh : (signsT.data.toList.drop i).head? = some 32:=by rw [← hy]; rfl
   have hi : i < signsT.data.toList.length:=by
    rcases Nat.lt_or_ge i signsT.data.toList.length with h | h
    ·exact h
    ·rw [List.drop_of_length_le h] at hh; cases hh
   have:=List.all_eq_true.1 spieces_ok i (List.mem_range.2 hi)
   rw [hd,take_not _ _ hn,hh] at this
   cases hsl : s.data.toList with
   | nil => exact absurd hsl hne
   | cons a b =>
    rw [hsl] at this
    simpa using this
 ·intro h
  have hm : s.data.toList ∈ signsL:=by simpa using h
  have:=List.all_eq_true.1 signs_in _ hm
  simp only [Bool.and_eq_true] at this
  obtain ⟨⟨h1,h2⟩,h3⟩:=this
  have hne : s.size ≠ 0:=by
   intro e
   have:=zBt s
   rw [e] at this
   have:=List.eq_nil_of_length_eq_zero this
   rw [this] at h3; cases h3
  simp only [signedB,Bool.and_eq_true,decide_eq_true_eq]
  refine ⟨⟨hne,?_⟩,by rw [zBV]; exact h1⟩
  rw [hasB]; exact h2
theorem signed_loop (s : ByteArray) (l : List ByteArray) (hm : l.length ≤ 1000) : ∀ (n i : Nat),l.length ≤ n + i → i ≤ l.length → zAx.l0 (n + 1) s l (i : Int) = some (((l.drop i).map (·.data.toList)).contains s.data.toList)
 | 0,i,hn,hi => by
  rw [zAx.l0,if_neg (by omega),List.drop_of_length_le (by omega)]; rfl
 | n + 1,i,hn,hi => by
  rw [zAx.l0]
  by_cases hlt : i < l.length
  ·rw [if_pos (by omega),if_pos (by omega),rdw_at l i hlt,List.drop_eq_getElem_cons hlt,List.map_cons,zAI,zAI]
   by_cases he : l[i].data.toList = s.data.toList
   ·rw [if_pos he,he]; simp
   ·have hw : wrap64 ((i : Int) + 1) = ((i + 1 : Nat) : Int):=by unfold wrap64; omega
    rw [if_neg he,hw,signed_loop s l hm n (i + 1) (by omega) (by omega)]
    have hb : (s.data.toList == l[i].data.toList) = false:=beq_eq_false_iff_ne.2 (fun e => he e.symm)
    rw [List.contains_cons,hb,Bool.false_or]
  ·rw [if_neg (by omega),List.drop_of_length_le (by omega)]; rfl
theorem ref_signed (s : ByteArray) (n : Nat) (hn : 14 ≤ n) : zAx.f n s = some (signedB s):=by
 obtain ⟨m,rfl⟩ : ∃ m,n = m + 1:=⟨n - 1,by omega⟩
 rw [signed_words,zAx.f]
 exact signed_loop s signWords (by decide) m 0 (by show 13 ≤ m + 0; omega) (Nat.zero_le _)
def texR (k : Int) (tx : ByteArray) : Bool :=
 if k = 2 ∨ k = 3 ∨ k = 4 ∨ k = 5 ∨ k = 7 ∨ k = 8 ∨ k = 9 ∨ k = 16 ∨ k = 17 ∨ k = 18 ∨ k = 19 ∨ k = 22 ∨ k = 23 ∨ k = 24 ∨ k = 25 then identB tx
 else if k = 13 then identB tx || tx.toList == [] else if k = 26 then tx.toList == [45] || tx.toList == [33] else if k = 27 then signedB tx else tx.toList == []
theorem texR_eq (k : Int) (tx : ByteArray) (h1 : 1 ≤ k) (h2 : k ≤ 27) : texR k tx = textB k tx:=by
 have he : (tx.toList == []) = tx.toList.isEmpty:=by cases tx.toList <;> rfl
 unfold texR textB
 rw [he]
 by_cases c1 : k = 2 ∨ k = 3 ∨ k = 4 ∨ k = 5 ∨ k = 7 ∨ k = 8 ∨ k = 9 ∨ k = 16 ∨ k = 17 ∨ k = 18 ∨ k = 19 ∨ k = 22 ∨ k = 23 ∨ k = 24 ∨ k = 25
 ·rw [if_pos c1,if_neg (by omega),if_neg (by omega),if_neg (by omega),if_neg (by omega)]
 rw [if_neg c1]
 by_cases c2 : k = 13
 ·rw [if_pos c2,if_neg (by omega),if_pos c2,Bool.or_comm]
 rw [if_neg c2]
 by_cases c3 : k = 26
 ·rw [if_pos c3,if_neg (by omega),if_neg c2,if_pos c3]
 rw [if_neg c3]
 by_cases c4 : k = 27
 ·rw [if_pos c4,if_neg (by omega),if_neg c2,if_neg c3,if_pos c4]
 rw [if_neg c4,if_pos (by omega)]
theorem rtexts_is (k n at_ : Int) (tx : ByteArray) (A : Option Addr) (len c : Nat) (hs : tx.size ≤ 1000000) (w : World) :
  Calls Tryz.prog 112 #[.agg #[.int .i64 k,.int .i64 n,.int .i64 at_,.string tx,.slice A len c]] w fun e w' => e = .returned (.bool (texR k tx)) ∧ Below w.heap.size w w':=by
 obtain ⟨W0,hW0⟩ : ∃ W0,W0 = w.alloc (.cells #[.int .i64 k,.int .i64 n,.int .i64 at_,.string tx,.slice A len c] 66):=⟨_,rfl⟩
 have HB0 : Hid (Below w.heap.size w W0):=Lib.hid (by rw [hW0]; exact zAa (Below.refl _ _) _)
 have N0 : Hid (W0.heap[w.heap.size]? = some (.cells #[.int .i64 k,.int .i64 n,.int .i64 at_,.string tx,.slice A len c] 66 (0,0))):=Lib.hid (by rw [hW0]; exact blk_new w _)
 have HI:=Lib.hid (zAB.calls (26 + tx.size) tx (identB tx) W0 (ref_ident tx hs _ (Nat.le_refl _)))
 have HSG:=Lib.hid (fun W => zAx.calls 14 tx (signedB tx) W (ref_signed tx _ (Nat.le_refl _)))
 have hv : texR k tx = if k = 2 ∨ k = 3 ∨ k = 4 ∨ k = 5 ∨ k = 7 ∨ k = 8 ∨ k = 9 ∨ k = 16 ∨ k = 17 ∨ k = 18 ∨ k = 19 ∨ k = 22 ∨ k = 23 ∨ k = 24 ∨ k = 25 then identB tx
  else if k = 13 then identB tx || tx.toList == [] else if k = 26 then tx.toList == [45] || tx.toList == [33] else if k = 27 then signedB tx else tx.toList == []:=rfl
 obtain ⟨r,hr⟩ : ∃ r,r = texR k tx:=⟨_,rfl⟩
 rw [← hr] at hv ⊢
 obtain ⟨bi,hbi⟩ : ∃ b,b = identB tx:=⟨_,rfl⟩
 rw [← hbi] at hv HI
 obtain ⟨bs,hbs⟩ : ∃ b,b = signedB tx:=⟨_,rfl⟩
 rw [← hbs] at hv HSG
 have HV:=Lib.hid hv
 have HW0:=Lib.hid hW0
 clear hW0 hr hbi hbs hv
 have hk : (k = 2 ∨ k = 3 ∨ k = 4 ∨ k = 5 ∨ k = 7 ∨ k = 8 ∨ k = 9 ∨ k = 16 ∨ k = 17 ∨ k = 18 ∨ k = 19 ∨ k = 22 ∨ k = 23 ∨ k = 24 ∨ k = 25) ∨ k = 13 ∨ k = 26 ∨ k = 27 ∨ (¬ k = 2 ∧ ¬ k = 3 ∧ ¬ k = 4 ∧ ¬ k = 5 ∧ ¬ k = 7 ∧ ¬ k = 8 ∧ ¬ k = 9 ∧ ¬ k = 16 ∧ ¬ k = 17 ∧ ¬ k = 18 ∧ ¬ k = 19 ∧ ¬ k = 22 ∧ ¬ k = 23 ∧ ¬ k = 24 ∧ ¬ k = 25 ∧ ¬ k = 13 ∧ ¬ k = 26 ∧ ¬ k = 27):=by omega
 go_enter Tryz.func112,Tryz.ntmps112
 go_wp2_with fail
 rw [← HW0.out]
 refine HI.out.mono ?_
 rintro e_ W1 ⟨rfl,hb_⟩
 have HB1:=Lib.hid (zAd HB0.out hb_)
 have N1:=Lib.hid (zAe N0.out hb_)
 clear hb_ HI
 have n0:=bc_ N1.out 0
 have n3:=bc_ N1.out 3
 rcases hk with hk | hk | hk | hk | hk
 ·have hv:=HV.out
  rw [if_pos hk] at hv
  have HV2:=Lib.hid hv
  clear hv HV
  rcases hk with rfl | rfl | rfl | rfl | rfl | rfl | rfl | rfl | rfl | rfl | rfl | rfl | rfl | rfl | rfl <;> (
   go_wp2_with fail
   go_ret
   exact ⟨by rw [HV2.out]; rfl,HB1.out⟩)
 ·subst hk
  have HV2 : Hid (r = (bi || tx.toList == [])):=Lib.hid HV.out
  clear HV
  cases bi
  ·cases te : tx.toList == [] with
   | true =>
    have te2:=eq_of_beq te
    go_wp2_with fail
    go_ret
    exact ⟨by rw [HV2.out,te]; rfl,HB1.out⟩
   | false =>
    have te2 : ¬ tx.toList = []:=fun h => by rw [h] at te; cases te
    go_wp2_with fail
    go_ret
    exact ⟨by rw [HV2.out,te]; rfl,HB1.out⟩
  ·go_wp2_with fail
   go_ret
   exact ⟨by rw [HV2.out]; rfl,HB1.out⟩
 ·subst hk
  have HV2 : Hid (r = (tx.toList == [45] || tx.toList == [33])):=Lib.hid HV.out
  clear HV
  cases ta : tx.toList == [45] with
  | true =>
   go_wp2_with fail
   go_ret
   exact ⟨by rw [HV2.out,ta]; rfl,HB1.out⟩
  | false =>
   cases tb : tx.toList == [33] with
   | true =>
    go_wp2_with fail
    go_ret
    exact ⟨by rw [HV2.out,ta,tb]; rfl,HB1.out⟩
   | false =>
    go_wp2_with fail
    go_ret
    exact ⟨by rw [HV2.out,ta,tb]; rfl,HB1.out⟩
 ·subst hk
  have HV2 : Hid (r = bs):=Lib.hid HV.out
  clear HV
  go_wp2_with fail
  refine (HSG.out W1).mono ?_
  rintro e_ W2 ⟨rfl,hb_⟩
  have HB2:=Lib.hid (zAd HB1.out hb_)
  clear hb_ n0 n3
  go_wp2_with fail
  go_ret
  exact ⟨by rw [HV2.out]; rfl,HB2.out⟩
 ·have hv:=HV.out
  rw [if_neg (by omega),if_neg (by omega),if_neg (by omega),if_neg (by omega)] at hv
  have HV2:=Lib.hid hv
  clear hv HV
  obtain ⟨k1,k2,k3,k4,k5,k6,k7,k8,k9,k10,k11,k12,k13,k14,k15,k16,k17,k18⟩:=hk
  cases te : tx.toList == [] with
  | true =>
   have te2:=eq_of_beq te
   go_wp2_with fail
   go_ret
   exact ⟨by rw [HV2.out,te]; rfl,HB1.out⟩
  | false =>
   have te2 : ¬ tx.toList = []:=fun h => by rw [h] at te; cases te
   go_wp2_with fail
   go_ret
   exact ⟨by rw [HV2.out,te]; rfl,HB1.out⟩
theorem rnumbers_is (k n at_ : Int) (tx : ByteArray) (A : Option Addr) (len c : Nat) (w : World) :
  Calls Tryz.prog 113 #[.agg #[.int .i64 k,.int .i64 n,.int .i64 at_,.string tx,.slice A len c]] w fun e w' => e = .returned (.bool (numB k n)) ∧ Below w.heap.size w w':=by
 have HB0:=Lib.hid (fun o => zAa (Below.refl w.heap.size w) o)
 have hv : numB k n = if k = 2 ∨ k = 4 ∨ k = 5 then decide (1 ≤ n) && decide (n ≤ 4) else if k = 3 then decide (0 ≤ n) && decide (n ≤ 4) else if k = 20 then decide (0 ≤ n) else if k = 21 then n == 0 || n == 1 else n == 0:=rfl
 obtain ⟨r,hr⟩ : ∃ r,r = numB k n:=⟨_,rfl⟩
 rw [← hr] at hv ⊢
 clear hr
 have hk : (k = 2 ∨ k = 4 ∨ k = 5) ∨ k = 3 ∨ k = 20 ∨ k = 21 ∨ (¬ k = 2 ∧ ¬ k = 4 ∧ ¬ k = 5 ∧ ¬ k = 3 ∧ ¬ k = 20 ∧ ¬ k = 21):=by omega
 rcases hk with hk | hk | hk | hk | hk
 ·rw [if_pos hk] at hv
  have HV:=Lib.hid hv
  clear hv
  have hn : ¬ 1 ≤ n ∨ (1 ≤ n ∧ n ≤ 4) ∨ (1 ≤ n ∧ ¬ n ≤ 4):=by omega
  rcases hk with rfl | rfl | rfl <;> rcases hn with a | ⟨a,b⟩ | ⟨a,b⟩ <;> (
   go_enter Tryz.func113,Tryz.ntmps113
   go_wp2_with fail
   go_ret
   exact ⟨by rw [HV.out]; first | rfl | (simp [*]; done) | (simp; omega) | (trace_state; simp),HB0.out _⟩)
 ·subst hk
  have HV : Hid (r = (decide (0 ≤ n) && decide (n ≤ 4))):=Lib.hid hv
  clear hv
  have hn : ¬ 0 ≤ n ∨ (0 ≤ n ∧ n ≤ 4) ∨ (0 ≤ n ∧ ¬ n ≤ 4):=by omega
  rcases hn with a | ⟨a,b⟩ | ⟨a,b⟩ <;> (
   go_enter Tryz.func113,Tryz.ntmps113
   go_wp2_with fail
   go_ret
   exact ⟨by rw [HV.out]; first | rfl | (simp [*]; done) | (simp; omega) | (trace_state; simp),HB0.out _⟩)
 ·subst hk
  have HV : Hid (r = decide (0 ≤ n)):=Lib.hid hv
  clear hv
  go_enter Tryz.func113,Tryz.ntmps113
  go_wp2_with fail
  go_ret
  exact ⟨by rw [HV.out]; first | rfl | simp,HB0.out _⟩
 ·subst hk
  have HV : Hid (r = (n == 0 || n == 1)):=Lib.hid hv
  clear hv
  by_cases a : n = 0
  ·subst a
   go_enter Tryz.func113,Tryz.ntmps113
   go_wp2_with fail
   go_ret
   exact ⟨by rw [HV.out]; rfl,HB0.out _⟩
  ·have ab : (n == 0) = false:=beq_eq_false_iff_ne.2 a
   go_enter Tryz.func113,Tryz.ntmps113
   go_wp2_with fail
   go_ret
   exact ⟨by rw [HV.out,ab]; first | rfl | simp,HB0.out _⟩
 ·rw [if_neg (by omega),if_neg (by omega),if_neg (by omega),if_neg (by omega)] at hv
  have HV:=Lib.hid hv
  clear hv
  obtain ⟨k1,k2,k3,k4,k5,k6⟩:=hk
  go_enter Tryz.func113,Tryz.ntmps113
  go_wp2_with fail
  go_ret
  exact ⟨by rw [HV.out]; first | rfl | simp,HB0.out _⟩
end Go.Proofs.YtkhlfdcjgooogaaGreat.P
