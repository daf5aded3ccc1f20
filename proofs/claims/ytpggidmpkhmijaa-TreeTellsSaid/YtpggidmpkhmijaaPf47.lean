import Derived.Test.YtpggidmpkhmijaaRose
import Derived.Test.YtpggidmpkhmijaaPf55
set_option linter.unusedVariables false
set_option linter.unusedSimpArgs false
namespace Go.Proofs.Ytpggidmpkhmijaa.P
open Go.RowKit Go.Proofs.YtpggidmpkhmijaaW.PrintWords Go.Proofs.YtpggidmpkhmijaaW.PrintLast Go.Proofs.YtpggidmpkhmijaaW.PrintMore
attribute [local go_sem] zBa zAY max_two min_two zAR zAT zAZ zAX
def zAN.l0 : Nat → ByteArray → List ByteArray → Int → Option (Bool)
 | 0,_,_,_ => none
 | k + 1,x0,x3,x4 => if x4 < (x3.length : Int) then (if 0 ≤ x4 then (if (rdOf ByteArray.empty x3 x4).toList = x0.toList then (some true) else (zAN.l0 k x0 x3 (wrap64 (x4 + 1)))) else (none)) else (some false)
def zAN.f (k : Nat) (a0 : ByteArray) : Option (Bool):=zAN.l0 k a0 (([(⟨#[43]⟩ : ByteArray),(⟨#[45]⟩ : ByteArray),(⟨#[42]⟩ : ByteArray),(⟨#[47]⟩ : ByteArray),(⟨#[37]⟩ : ByteArray),(⟨#[61,61]⟩ : ByteArray),(⟨#[33,61]⟩ : ByteArray),(⟨#[60]⟩ : ByteArray),(⟨#[60,61]⟩ : ByteArray),(⟨#[62]⟩ : ByteArray),(⟨#[62,61]⟩ : ByteArray),(⟨#[38,38]⟩ : ByteArray),(⟨#[124,124]⟩ : ByteArray)] : List ByteArray)) 0
set_option maxHeartbeats 8000000 in
set_option maxRecDepth 100000 in
theorem zAN.calls (k : Nat) (a0 : ByteArray) (r : Bool) (w : World) (h : zAN.f k a0 = some r) :
  Calls Try.prog 56 #[.string a0] w fun e w' => e = .returned (.bool r) ∧ Below w.heap.size w w':=by
 have HB:=Aside0.mk (Below.refl w.heap.size w)
 have H : (zAN.l0 k a0 (([(⟨#[43]⟩ : ByteArray),(⟨#[45]⟩ : ByteArray),(⟨#[42]⟩ : ByteArray),(⟨#[47]⟩ : ByteArray),(⟨#[37]⟩ : ByteArray),(⟨#[61,61]⟩ : ByteArray),(⟨#[33,61]⟩ : ByteArray),(⟨#[60]⟩ : ByteArray),(⟨#[60,61]⟩ : ByteArray),(⟨#[62]⟩ : ByteArray),(⟨#[62,61]⟩ : ByteArray),(⟨#[38,38]⟩ : ByteArray),(⟨#[124,124]⟩ : ByteArray)] : List ByteArray)) 0) = some r:=h
 clear h
 obtain ⟨y300,hy300⟩ : ∃ y_ : List ByteArray,y_ = (([(⟨#[43]⟩ : ByteArray),(⟨#[45]⟩ : ByteArray),(⟨#[42]⟩ : ByteArray),(⟨#[47]⟩ : ByteArray),(⟨#[37]⟩ : ByteArray),(⟨#[61,61]⟩ : ByteArray),(⟨#[33,61]⟩ : ByteArray),(⟨#[60]⟩ : ByteArray),(⟨#[60,61]⟩ : ByteArray),(⟨#[62]⟩ : ByteArray),(⟨#[62,61]⟩ : ByteArray),(⟨#[38,38]⟩ : ByteArray),(⟨#[124,124]⟩ : ByteArray)] : List ByteArray)):=⟨_,rfl⟩
 replace H : (zAN.l0 k a0 y300 0) = some r:=by first | (rw [hy300]; with_reducible exact H) | (have H2_:=(Option.bind_some _ _).symm.trans H; rw [hy300]; with_reducible exact H2_) | (have H2_:=(Option.bind_some _ _).symm.trans H; with_reducible exact H2_) | with_reducible exact H | (rw [hy300]; exact H) | exact H
 have Ny300:=Aside0.mk hy300
 clear hy300
 have H':=Aside0.mk H
 clear H
 go_enter Try.func56,Try.ntmps56
 go_wp2_with (first | ((with_reducible refine zAM (N:=5) rfl ?_); refine Kd.R_lit Kd.string _ 9 ?hg (N:=5) ?hd (xs:=([(⟨#[43]⟩ : ByteArray),(⟨#[45]⟩ : ByteArray),(⟨#[42]⟩ : ByteArray),(⟨#[47]⟩ : ByteArray),(⟨#[37]⟩ : ByteArray),(⟨#[61,61]⟩ : ByteArray),(⟨#[33,61]⟩ : ByteArray),(⟨#[60]⟩ : ByteArray),(⟨#[60,61]⟩ : ByteArray),(⟨#[62]⟩ : ByteArray),(⟨#[62,61]⟩ : ByteArray),(⟨#[38,38]⟩ : ByteArray),(⟨#[124,124]⟩ : ByteArray)] : List ByteArray)) (inner:=[.string (⟨#[43]⟩ : ByteArray),.string (⟨#[45]⟩ : ByteArray),.string (⟨#[42]⟩ : ByteArray),.string (⟨#[47]⟩ : ByteArray),.string (⟨#[37]⟩ : ByteArray),.string (⟨#[61,61]⟩ : ByteArray),.string (⟨#[33,61]⟩ : ByteArray),.string (⟨#[60]⟩ : ByteArray),.string (⟨#[60,61]⟩ : ByteArray),.string (⟨#[62]⟩ : ByteArray),.string (⟨#[62,61]⟩ : ByteArray),.string (⟨#[38,38]⟩ : ByteArray),.string (⟨#[124,124]⟩ : ByteArray)]) (ok:=fun _ => True) (okp:=fun _ => True) ?hr ?hp (fun _ hk => hk) trivial (Below.refl _ _) (Nat.le_refl _) (by simp) ?_; (case hd => rfl); (case hg => rfl); (case hr => first | (go_simp; done) | (go_simp; rfl)); (case hp => exact (Reps.one (show Kd.M Kd.string _ _ _ (⟨#[43]⟩ : ByteArray) [.string (⟨#[43]⟩ : ByteArray)] from rfl) (Reps.one (show Kd.M Kd.string _ _ _ (⟨#[45]⟩ : ByteArray) [.string (⟨#[45]⟩ : ByteArray)] from rfl) (Reps.one (show Kd.M Kd.string _ _ _ (⟨#[42]⟩ : ByteArray) [.string (⟨#[42]⟩ : ByteArray)] from rfl) (Reps.one (show Kd.M Kd.string _ _ _ (⟨#[47]⟩ : ByteArray) [.string (⟨#[47]⟩ : ByteArray)] from rfl) (Reps.one (show Kd.M Kd.string _ _ _ (⟨#[37]⟩ : ByteArray) [.string (⟨#[37]⟩ : ByteArray)] from rfl) (Reps.one (show Kd.M Kd.string _ _ _ (⟨#[61,61]⟩ : ByteArray) [.string (⟨#[61,61]⟩ : ByteArray)] from rfl) (Reps.one (show Kd.M Kd.string _ _ _ (⟨#[33,61]⟩ : ByteArray) [.string (⟨#[33,61]⟩ : ByteArray)] from rfl) (Reps.one (show Kd.M Kd.string _ _ _ (⟨#[60]⟩ : ByteArray) [.string (⟨#[60]⟩ : ByteArray)] from rfl) (Reps.one (show Kd.M Kd.string _ _ _ (⟨#[60,61]⟩ : ByteArray) [.string (⟨#[60,61]⟩ : ByteArray)] from rfl) (Reps.one (show Kd.M Kd.string _ _ _ (⟨#[62]⟩ : ByteArray) [.string (⟨#[62]⟩ : ByteArray)] from rfl) (Reps.one (show Kd.M Kd.string _ _ _ (⟨#[62,61]⟩ : ByteArray) [.string (⟨#[62,61]⟩ : ByteArray)] from rfl) (Reps.one (show Kd.M Kd.string _ _ _ (⟨#[38,38]⟩ : ByteArray) [.string (⟨#[38,38]⟩ : ByteArray)] from rfl) (Reps.one (show Kd.M Kd.string _ _ _ (⟨#[124,124]⟩ : ByteArray) [.string (⟨#[124,124]⟩ : ByteArray)] from rfl) (Reps.none _ _))))))))))))))); intro v301 w2 ho3 hb hg_ hnew_; clear hg_ hnew_; (first | rw [← Ny300.out] at ho3 | (simp only [Int.reduceToNat] at ho3; rw [← Ny300.out] at ho3)); have n0_:=Aside0.mk (Kd.R_lower ho3 (zAp (by repeat (first | (with_reducible first | exact HB.out | apply zAg | apply zAc | apply zAi) | exact HB.out)))); have n1_:=Aside0.mk (zAm (by repeat (first | (with_reducible first | exact HB.out | apply zAg | apply zAc | apply zAi) | exact HB.out)) hb); clear HB; have HO302:=n0_; have HB:=n1_; clear n0_ n1_; clear hb ho3))
 go_loopg [4] k (fun kq v4 w' => ∃ (x4_1 : Int),v4 = .int .i64 x4_1 ∧ Aside0 (zAN.l0 kq a0 y300 x4_1 = some r) ∧ Aside0 (kq ≤ k) ∧ Aside0 (Kd.R Kd.string 9 w' w.heap.size (fun _ => True) v301 y300) ∧ Aside0 (Below w.heap.size w w'))
 case atStart => exact ⟨(0),(by first | rfl | (simp; done) | (simp [*]; done)),H',⟨Nat.le_refl _⟩,⟨by (with_reducible repeat (first | apply Kd.R_alloc | apply Kd.R_drewN | apply Kd.R_drew)); exact HO302.out⟩,⟨by repeat (first | (with_reducible first | exact HB.out | apply zAg | apply zAc | apply zAi) | exact HB.out)⟩⟩
 case round =>
  clear H'
  try clear p2
  obtain ⟨x4_1,rfl,HA,HK1,HO_3,HB⟩:=hrel
  cases gk with
  | zero => exact absurd HA.out (by simp [zAN.l0])
  | succ k1 =>
   have H:=HA.out
   clear HA
   simp only [zAN.l0] at H
   by_cases c4 : x4_1 < (y300.length : Int)
   ·rw [if_pos c4] at H
    have c4b0 : decide (x4_1 < (y300.length : Int)) = true:=decide_eq_true c4
    clear c4
    by_cases c5 : 0 ≤ x4_1
    ·rw [if_pos c5] at H
     have c5b0 : decide (0 ≤ x4_1) = true:=decide_eq_true c5
     clear c5
     by_cases c6 : (rdOf ByteArray.empty y300 x4_1).toList = a0.toList
     ·rw [if_pos c6] at H
      have c6b0 : ((rdOf ByteArray.empty y300 x4_1).toList == a0.toList) = true:=beq_iff_eq.mpr c6
      have c6b1 : ((rdOf ByteArray.empty y300 x4_1).toList != a0.toList) = false:=bne_eq_false_iff_eq.mpr c6
      clear c6
      obtain rfl:=Option.some.inj H
      obtain ⟨Ao7,co7,eo7⟩:=Kd.R_slice HO_3.out
      subst eo7
      have p303 : 0 ≤ (x4_1 : Int):=of_decide_eq_true (by first | (with_reducible assumption) | assumption)
      have q303 : x4_1 < (y300.length : Int):=of_decide_eq_true (by first | (with_reducible assumption) | assumption)
      obtain ⟨ad303,e303,hx303_0⟩:=Kd.zCb (Kd.zAV HO_3.out).2.2 x4_1 p303 q303
      cases e303
      replace p303:=eq_true p303
      replace q303:=eq_true q303
      go_wp2
      go_ret
      exact ⟨by first | rfl | (simp [zAo,zAn] <;> rfl) | (simp [*,zAo,zAn] <;> rfl),by repeat (first | (with_reducible first | exact HB.out | apply zAg | apply zAc | apply zAi) | exact HB.out)⟩
     ·rw [if_neg c6] at H
      have c6b0 : ((rdOf ByteArray.empty y300 x4_1).toList == a0.toList) = false:=beq_eq_false_iff_ne.mpr c6
      have c6b1 : ((rdOf ByteArray.empty y300 x4_1).toList != a0.toList) = true:=bne_iff_ne.mpr c6
      have H':=Aside0.mk H
      clear H
      obtain ⟨Ao8,co8,eo8⟩:=Kd.R_slice HO_3.out
      subst eo8
      have p303 : 0 ≤ (x4_1 : Int):=of_decide_eq_true (by first | (with_reducible assumption) | assumption)
      have q303 : x4_1 < (y300.length : Int):=of_decide_eq_true (by first | (with_reducible assumption) | assumption)
      obtain ⟨ad303,e303,hx303_0⟩:=Kd.zCb (Kd.zAV HO_3.out).2.2 x4_1 p303 q303
      cases e303
      replace p303:=eq_true p303
      replace q303:=eq_true q303
      go_wp2
      go_roundg k1
      case measure => have:=HK1.out; omega
      case rel => exact ⟨(wrap64 (x4_1 + 1)),(by first | rfl | (simp; done) | (simp [*]; done)),H',⟨by have:=HK1.out; omega⟩,⟨by (with_reducible repeat (first | apply Kd.R_alloc | apply Kd.R_drewN | apply Kd.R_drew)); exact HO_3.out⟩,⟨by repeat (first | (with_reducible first | exact HB.out | apply zAg | apply zAc | apply zAi) | exact HB.out)⟩⟩
    ·rw [if_neg c5] at H
     exact absurd H (by simp)
   ·rw [if_neg c4] at H
    have c4b0 : decide (x4_1 < (y300.length : Int)) = false:=decide_eq_false c4
    clear c4
    obtain rfl:=Option.some.inj H
    obtain ⟨Ao9,co9,eo9⟩:=Kd.R_slice HO_3.out
    subst eo9
    go_wp2
    go_ret
    exact ⟨by first | rfl | (simp [zAo,zAn] <;> rfl) | (simp [*,zAo,zAn] <;> rfl),by repeat (first | (with_reducible first | exact HB.out | apply zAg | apply zAc | apply zAi) | exact HB.out)⟩
open Go.RowKit Go.Proofs.YtpggidmpkhmijaaW.PrintWords
theorem while_sep (p : UInt8 → Bool) (d : UInt8) (hp : p d = false) (b : List UInt8) : ∀ a : List UInt8,(a ++ d :: b).takeWhile p = a.takeWhile p
 | [] => by rw [List.nil_append,List.takeWhile_cons,if_neg (by simp [hp])]; rfl
 | c :: a => by
  by_cases h : p c = true
  ·rw [List.cons_append,List.takeWhile_cons,if_pos h,while_sep p d hp b a,List.takeWhile_cons,if_pos h]
  ·rw [List.cons_append,List.takeWhile_cons,if_neg h,List.takeWhile_cons,if_neg h]
theorem run_all (p : UInt8 → Bool) : ∀ l : List UInt8,l.all p = true → l.takeWhile p = l
 | [],_ => rfl
 | c :: l,h => by
  simp only [List.all_cons,Bool.and_eq_true] at h
  rw [List.takeWhile_cons,if_pos h.1,run_all p l h.2]
theorem zBS (s : ByteArray) : (spaced s).data.toList = 32 :: (s.data.toList ++ [32]):=by
 simp [spaced,ByteArray.data_append]
def keptWords : List ByteArray:=[(⟨#[118,97,114]⟩ : ByteArray),(⟨#[112,114,111,99]⟩ : ByteArray),(⟨#[105,110,116]⟩ : ByteArray),(⟨#[98,111,111,108]⟩ : ByteArray),(⟨#[97,114,114]⟩ : ByteArray),(⟨#[102,117,110]⟩ : ByteArray),(⟨#[105,110]⟩ : ByteArray),(⟨#[111,117,116]⟩ : ByteArray),(⟨#[105,102]⟩ : ByteArray),(⟨#[101,108,115,101]⟩ : ByteArray),(⟨#[119,104,105,108,101]⟩ : ByteArray),(⟨#[99,97,108,108]⟩ : ByteArray),(⟨#[114,101,116,117,114,110]⟩ : ByteArray),(⟨#[116,104,114,111,119]⟩ : ByteArray),(⟨#[116,114,121]⟩ : ByteArray),(⟨#[99,97,116,99,104]⟩ : ByteArray),(⟨#[110,101,119]⟩ : ByteArray),(⟨#[108,101,110]⟩ : ByteArray),(⟨#[116,114,117,101]⟩ : ByteArray),(⟨#[102,97,108,115,101]⟩ : ByteArray)]
def wordsL : List (List UInt8):=keptWords.map (·.data.toList)
set_option maxRecDepth 100000 in
theorem pieces_ok : ((List.range keptText.data.toList.length).all fun i => !((keptText.data.toList.drop i).head? == some 32) || (((keptText.data.toList.drop i).drop 1).takeWhile (fun c => c != 32)).isEmpty || wordsL.contains (((keptText.data.toList.drop i).drop 1).takeWhile (fun c => c != 32))) = true:=by kernel_rfl
set_option maxRecDepth 100000 in
theorem words_in : (wordsL.all fun x => Lib.contains keptText.data.toList (32 :: (x ++ [32])) && !x.contains 32 && !x.isEmpty) = true:=by kernel_rfl
theorem take_not (x y : List UInt8) (h : (32 : UInt8) ∉ x) : (x ++ 32 :: y).takeWhile (fun c => c != 32) = x:=by
 rw [while_sep _ 32 rfl]
 exact run_all _ _ (List.all_eq_true.2 fun c hc => by
  have : c ≠ 32:=fun e => h (e ▸ hc)
  simpa using this)
theorem kept_words (s : ByteArray) : keptB s = wordsL.contains s.data.toList:=by
 rw [Bool.eq_iff_iff]
 constructor
 ·intro h
  simp only [keptB,Bool.and_eq_true,decide_eq_true_eq,Bool.not_eq_true'] at h
  obtain ⟨⟨h0,h1⟩,h2⟩:=h
  have hn : (32 : UInt8) ∉ s.data.toList:=by
   intro hm
   have : hasB s 32 = true:=by simpa [hasB] using hm
   rw [h1] at this; cases this
  have hne : s.data.toList ≠ []:=by
   intro e
   have:=zBA s
   rw [e] at this
   exact h0 (by simpa using this.symm)
  rcases Lib.index_spec keptText.data.toList (spaced s).data.toList with ⟨h3,_⟩ | ⟨i,h3,h4,h5,_⟩
  ·simp [Lib.contains,h3] at h2
  ·have h6 : (spaced s).data.toList <+: keptText.data.toList.drop i:=by simpa [Lib.occAt] using h5
   rw [zBS] at h6
   obtain ⟨y,hy⟩:=h6
   have hd : (keptText.data.toList.drop i).drop 1 = s.data.toList ++ 32 :: y:=by rw [← hy]; simp
   have hh : (keptText.data.toList.drop i).head? = some 32:=by rw [← hy]; rfl
   have hi : i < keptText.data.toList.length:=by
    rcases Nat.lt_or_ge i keptText.data.toList.length with h | h
    ·exact h
    ·rw [List.drop_of_length_le h] at hh; cases hh
   have:=List.all_eq_true.1 pieces_ok i (List.mem_range.2 hi)
   rw [hd,take_not _ _ hn,hh] at this
   cases hsl : s.data.toList with
   | nil => exact absurd hsl hne
   | cons a b =>
    rw [hsl] at this
    simpa using this
 ·intro h
  have hm : s.data.toList ∈ wordsL:=by simpa using h
  have:=List.all_eq_true.1 words_in _ hm
  simp only [Bool.and_eq_true] at this
  obtain ⟨⟨h1,h2⟩,h3⟩:=this
  have hne : s.size ≠ 0:=by
   intro e
   have:=zBA s
   rw [e] at this
   have:=List.eq_nil_of_length_eq_zero this
   rw [this] at h3; cases h3
  simp only [keptB,Bool.and_eq_true,decide_eq_true_eq]
  refine ⟨⟨hne,?_⟩,by rw [zBS]; exact h1⟩
  rw [hasB]; exact h2
theorem rdw_at (l : List ByteArray) (i : Nat) (h : i < l.length) : rdOf ByteArray.empty l (i : Int) = l[i]:=by
 simp [rdOf,List.getD_eq_getElem?_getD,h]
theorem kept_loop (s : ByteArray) (l : List ByteArray) (hm : l.length ≤ 1000) : ∀ (n i : Nat),l.length ≤ n + i → i ≤ l.length → zAO.l0 (n + 1) s l (i : Int) = some (((l.drop i).map (·.data.toList)).contains s.data.toList)
 | 0,i,hn,hi => by
  rw [zAO.l0,if_neg (by omega),List.drop_of_length_le (by omega)]; rfl
 | n + 1,i,hn,hi => by
  rw [zAO.l0]
  by_cases hlt : i < l.length
  ·rw [if_pos (by omega),if_pos (by omega),rdw_at l i hlt,List.drop_eq_getElem_cons hlt,List.map_cons,zBL,zBL]
   by_cases he : l[i].data.toList = s.data.toList
   ·rw [if_pos he,he]; simp
   ·have hw : wrap64 ((i : Int) + 1) = ((i + 1 : Nat) : Int):=by unfold wrap64; omega
    rw [if_neg he,hw,kept_loop s l hm n (i + 1) (by omega) (by omega)]
    have hb : (s.data.toList == l[i].data.toList) = false:=beq_eq_false_iff_ne.2 (fun e => he e.symm)
    rw [List.contains_cons,hb,Bool.false_or]
  ·rw [if_neg (by omega),List.drop_of_length_le (by omega)]; rfl
theorem ref_kept (s : ByteArray) (n : Nat) (hn : 21 ≤ n) : zAO.f n s = some (keptB s):=by
 obtain ⟨m,rfl⟩ : ∃ m,n = m + 1:=⟨n - 1,by omega⟩
 rw [kept_words,zAO.f]
 exact kept_loop s keptWords (by decide) m 0 (by show 20 ≤ m + 0; omega) (Nat.zero_le _)
def allBytes (p : UInt8 → Bool) : Bool:=(List.range 256).all fun i => p (UInt8.ofNat i)
theorem all_bytes {p : UInt8 → Bool} (h : allBytes p = true) (c : UInt8) : p c = true:=by
 have:=List.all_eq_true.1 h c.toNat (List.mem_range.2 (UInt8.toNat_lt c))
 simpa using this
set_option maxRecDepth 100000 in
theorem part_all : allBytes (fun c => zBl.f (c.toNat : Int) == some (hasB partsT c)) = true:=by kernel_rfl
set_option maxRecDepth 100000 in
theorem digit_all : allBytes (fun c => zAP.f (c.toNat : Int) == some (hasB digitsT c)) = true:=by kernel_rfl
theorem ref_part (c : UInt8) : zBl.f (c.toNat : Int) = some (hasB partsT c):=by simpa using all_bytes part_all c
theorem ref_digit (c : UInt8) : zAP.f (c.toNat : Int) = some (hasB digitsT c):=by simpa using all_bytes digit_all c
theorem bt_nat (s : ByteArray) (i : Nat) (h : i < s.size) : bt s (i : Int) = (s[i].toNat : Int):=by
 unfold bt
 rw [dif_pos (by simpa using h)]
 simp
def identEnd (s : ByteArray) : Bool:=decide (1 ≤ s.size) && decide (s.size ≤ 20) && !hasB digitsT (s.data.getD 0 0) && !keptB s
theorem ident_end (s : ByteArray) (k : Nat) (hk : 21 ≤ k) : ((zAO.f k s).bind fun t147 => (if (s.size : Int) ≥ 1 then (if (s.size : Int) ≤ 20 then (if 0 < (s.size : Int) then ((zAP.f (bt s 0)).bind fun t148 => (if t148 = true then (some false) else (some (!t147)))) else (none)) else (some false)) else (some false))) = some (identEnd s):=by
 rw [ref_kept s k hk]
 show (if (s.size : Int) ≥ 1 then _ else _) = _
 by_cases h1 : 1 ≤ s.size
 ·rw [if_pos (by omega)]
  by_cases h2 : s.size ≤ 20
  ·have h0 : bt s 0 = (s[0].toNat : Int):=bt_nat s 0 (by omega)
   rw [if_pos (by omega),if_pos (by omega),h0,ref_digit,zCD s (by omega)]
   show (if hasB digitsT (s.data.getD 0 0) = true then _ else _) = _
   unfold identEnd
   rw [decide_eq_true h1,decide_eq_true h2]
   cases hasB digitsT (s.data.getD 0 0) <;> simp
  ·rw [if_neg (by omega)]
   simp [identEnd,h2]
 ·rw [if_neg (by omega)]
  simp [identEnd,h1]
theorem ident_loop (s : ByteArray) (hm : s.size ≤ 1000000) : ∀ (n i : Nat),25 + s.size ≤ n + i → i ≤ s.size → zAQ.l0 (n + 1) s (i : Int) = some ((s.data.toList.drop i).all (hasB partsT) && identEnd s)
 | 0,i,hn,hi => by omega
 | n + 1,i,hn,hi => by
  rw [zAQ.l0]
  by_cases hlt : i < s.size
  ·have hw : wrap64 ((i : Int) + 1) = ((i + 1 : Nat) : Int):=by unfold wrap64; omega
   rw [if_pos (by omega),if_pos (by omega),bt_nat s i hlt,ref_part,drop_at s i hlt,List.all_cons]
   show (if hasB partsT s[i] = true then _ else _) = _
   by_cases hp : hasB partsT s[i] = true
   ·rw [if_pos hp,hw,ident_loop s hm n (i + 1) (by omega) (by omega),hp]; rfl
   ·rw [if_neg hp]; simp [hp]
  ·rw [if_neg (by omega),ident_end s _ (by omega),List.drop_of_length_le (by rw [zBA]; omega)]; rfl
theorem ref_ident (s : ByteArray) (hm : s.size ≤ 1000000) (n : Nat) (hn : 26 + s.size ≤ n) : zAQ.f n s = some (identB s):=by
 obtain ⟨m,rfl⟩ : ∃ m,n = m + 1:=⟨n - 1,by omega⟩
 have:=ident_loop s hm m 0 (by omega) (Nat.zero_le _)
 rw [zAQ.f]
 refine this.trans ?_
 rw [List.drop_zero]
 unfold identB identEnd onlyB
 have e : decide (1 ≤ s.size) = decide (s.size ≠ 0):=decide_eq_decide.2 (by omega)
 rw [e]
 cases decide (s.size ≠ 0) <;> cases decide (s.size ≤ 20) <;> cases s.data.toList.all (hasB partsT) <;> rfl
def signWords : List ByteArray:=[(⟨#[43]⟩ : ByteArray),(⟨#[45]⟩ : ByteArray),(⟨#[42]⟩ : ByteArray),(⟨#[47]⟩ : ByteArray),(⟨#[37]⟩ : ByteArray),(⟨#[61,61]⟩ : ByteArray),(⟨#[33,61]⟩ : ByteArray),(⟨#[60]⟩ : ByteArray),(⟨#[60,61]⟩ : ByteArray),(⟨#[62]⟩ : ByteArray),(⟨#[62,61]⟩ : ByteArray),(⟨#[38,38]⟩ : ByteArray),(⟨#[124,124]⟩ : ByteArray)]
def signsL : List (List UInt8):=signWords.map (·.data.toList)
set_option maxRecDepth 100000 in
theorem spieces_ok : ((List.range signsT.data.toList.length).all fun i => !((signsT.data.toList.drop i).head? == some 32) || (((signsT.data.toList.drop i).drop 1).takeWhile (fun c => c != 32)).isEmpty || signsL.contains (((signsT.data.toList.drop i).drop 1).takeWhile (fun c => c != 32))) = true:=by kernel_rfl
set_option maxRecDepth 100000 in
theorem signs_in : (signsL.all fun x => Lib.contains signsT.data.toList (32 :: (x ++ [32])) && !x.contains 32 && !x.isEmpty) = true:=by kernel_rfl
theorem signed_words (s : ByteArray) : signedB s = signsL.contains s.data.toList:=by
 rw [Bool.eq_iff_iff]
 constructor
 ·intro h
  simp only [signedB,Bool.and_eq_true,decide_eq_true_eq,Bool.not_eq_true'] at h
  obtain ⟨⟨h0,h1⟩,h2⟩:=h
  have hn : (32 : UInt8) ∉ s.data.toList:=by
   intro hm
   have : hasB s 32 = true:=by simpa [hasB] using hm
   rw [h1] at this; cases this
  have hne : s.data.toList ≠ []:=by
   intro e
   have:=zBA s
   rw [e] at this
   exact h0 (by simpa using this.symm)
  rcases Lib.index_spec signsT.data.toList (spaced s).data.toList with ⟨h3,_⟩ | ⟨i,h3,h4,h5,_⟩
  ·simp [Lib.contains,h3] at h2
  ·have h6 : (spaced s).data.toList <+: signsT.data.toList.drop i:=by simpa [Lib.occAt] using h5
   rw [zBS] at h6
   obtain ⟨y,hy⟩:=h6
   have hd : (signsT.data.toList.drop i).drop 1 = s.data.toList ++ 32 :: y:=by rw [← hy]; simp
   have hh : (signsT.data.toList.drop i).head? = some 32:=by rw [← hy]; rfl
   have hi : i < signsT.data.toList.length:=by
    rcases Nat.lt_or_ge i signsT.data.toList.length with h | h
    ·exact h
    ·rw [List.drop_of_length_le h] at hh; cases hh
   have:=List.all_eq_true.1 spieces_ok i (List.mem_range.2 hi)
   rw [hd,take_not _ _ hn,hh] at this
   cases hsl : s.data.toList with
   | nil => exact absurd hsl hne
   | cons a b =>
    rw [hsl] at this
    simpa using this
 ·intro h
  have hm : s.data.toList ∈ signsL:=by simpa using h
  have:=List.all_eq_true.1 signs_in _ hm
  simp only [Bool.and_eq_true] at this
  obtain ⟨⟨h1,h2⟩,h3⟩:=this
  have hne : s.size ≠ 0:=by
   intro e
   have:=zBA s
   rw [e] at this
   have:=List.eq_nil_of_length_eq_zero this
   rw [this] at h3; cases h3
  simp only [signedB,Bool.and_eq_true,decide_eq_true_eq]
  refine ⟨⟨hne,?_⟩,by rw [zBS]; exact h1⟩
  rw [hasB]; exact h2
theorem signed_loop (s : ByteArray) (l : List ByteArray) (hm : l.length ≤ 1000) : ∀ (n i : Nat),l.length ≤ n + i → i ≤ l.length → zAN.l0 (n + 1) s l (i : Int) = some (((l.drop i).map (·.data.toList)).contains s.data.toList)
 | 0,i,hn,hi => by
  rw [zAN.l0,if_neg (by omega),List.drop_of_length_le (by omega)]; rfl
 | n + 1,i,hn,hi => by
  rw [zAN.l0]
  by_cases hlt : i < l.length
  ·rw [if_pos (by omega),if_pos (by omega),rdw_at l i hlt,List.drop_eq_getElem_cons hlt,List.map_cons,zBL,zBL]
   by_cases he : l[i].data.toList = s.data.toList
   ·rw [if_pos he,he]; simp
   ·have hw : wrap64 ((i : Int) + 1) = ((i + 1 : Nat) : Int):=by unfold wrap64; omega
    rw [if_neg he,hw,signed_loop s l hm n (i + 1) (by omega) (by omega)]
    have hb : (s.data.toList == l[i].data.toList) = false:=beq_eq_false_iff_ne.2 (fun e => he e.symm)
    rw [List.contains_cons,hb,Bool.false_or]
  ·rw [if_neg (by omega),List.drop_of_length_le (by omega)]; rfl
theorem ref_signed (s : ByteArray) (n : Nat) (hn : 14 ≤ n) : zAN.f n s = some (signedB s):=by
 obtain ⟨m,rfl⟩ : ∃ m,n = m + 1:=⟨n - 1,by omega⟩
 rw [signed_words,zAN.f]
 exact signed_loop s signWords (by decide) m 0 (by show 13 ≤ m + 0; omega) (Nat.zero_le _)
def zAr.j0 : Nat → Bool → Int → Bool → Int → Int → Int → ByteArray → List Int → Option (Bool)
 | 0,_,_,_,_,_,_,_,_ => none
 | k + 1,x3,x8,x9,x305000,x305001,x305002,x305003,x305004 => if x9 = true then (some x3) else (if x8 = 13 then (if x3 = true then (some true) else (some (x305003.toList == ([] : List UInt8)))) else (if x8 = 26 then (if x305003.toList = ([45] : List UInt8) then (some true) else (some (x305003.toList == ([33] : List UInt8)))) else (if x8 = 27 then ((zAN.f k x305003).bind fun t306 => (some t306)) else (some (x305003.toList == ([] : List UInt8))))))
def zAr.f (k : Nat) (a0_0 : Int) (a0_1 : Int) (a0_2 : Int) (a0_3 : ByteArray) (l0_4 : List Int) : Option (Bool):=(zAQ.f k a0_3).bind fun t305 => (if a0_0 = 2 then (zAr.j0 k t305 a0_0 (a0_0 == 2) a0_0 a0_1 a0_2 a0_3 l0_4) else (if a0_0 = 3 then (zAr.j0 k t305 a0_0 (a0_0 == 3) a0_0 a0_1 a0_2 a0_3 l0_4) else (if a0_0 = 4 then (zAr.j0 k t305 a0_0 (a0_0 == 4) a0_0 a0_1 a0_2 a0_3 l0_4) else (if a0_0 = 5 then (zAr.j0 k t305 a0_0 (a0_0 == 5) a0_0 a0_1 a0_2 a0_3 l0_4) else (if a0_0 = 7 then (zAr.j0 k t305 a0_0 (a0_0 == 7) a0_0 a0_1 a0_2 a0_3 l0_4) else (if a0_0 = 8 then (zAr.j0 k t305 a0_0 (a0_0 == 8) a0_0 a0_1 a0_2 a0_3 l0_4) else (if a0_0 = 9 then (zAr.j0 k t305 a0_0 (a0_0 == 9) a0_0 a0_1 a0_2 a0_3 l0_4) else (if a0_0 = 16 then (zAr.j0 k t305 a0_0 (a0_0 == 16) a0_0 a0_1 a0_2 a0_3 l0_4) else (if a0_0 = 17 then (zAr.j0 k t305 a0_0 (a0_0 == 17) a0_0 a0_1 a0_2 a0_3 l0_4) else (if a0_0 = 18 then (zAr.j0 k t305 a0_0 (a0_0 == 18) a0_0 a0_1 a0_2 a0_3 l0_4) else (if a0_0 = 19 then (zAr.j0 k t305 a0_0 (a0_0 == 19) a0_0 a0_1 a0_2 a0_3 l0_4) else (if a0_0 = 22 then (zAr.j0 k t305 a0_0 (a0_0 == 22) a0_0 a0_1 a0_2 a0_3 l0_4) else (if a0_0 = 23 then (zAr.j0 k t305 a0_0 (a0_0 == 23) a0_0 a0_1 a0_2 a0_3 l0_4) else (if a0_0 = 24 then (zAr.j0 k t305 a0_0 (a0_0 == 24) a0_0 a0_1 a0_2 a0_3 l0_4) else (zAr.j0 k t305 a0_0 (a0_0 == 25) a0_0 a0_1 a0_2 a0_3 l0_4)))))))))))))))
set_option maxHeartbeats 8000000 in
set_option maxRecDepth 100000 in
theorem zAr.calls (k : Nat) (a0_0 : Int) (a0_1 : Int) (a0_2 : Int) (a0_3 : ByteArray) (A0_4 : Option Addr) (c0_4 : Nat) (l0_4 : List Int) (r : Bool) (w : World) (hr0_4 : Kd.C (Kd.int .i64) w A0_4 l0_4.length l0_4) (hc0_4 : l0_4.length ≤ c0_4) (h : zAr.f k a0_0 a0_1 a0_2 a0_3 l0_4 = some r) :
  Calls Try.prog 47 #[.agg #[.int .i64 a0_0,.int .i64 a0_1,.int .i64 a0_2,.string a0_3,.slice A0_4 l0_4.length c0_4]] w fun e w' => e = .returned (.bool r) ∧ Below w.heap.size w w':=by
 have hu24:=Try.underlying24
 have HR0_4:=Aside0.mk hr0_4
 have HC0_4:=Aside0.mk hc0_4
 clear hr0_4 hc0_4
 have HB:=Aside0.mk (Below.refl w.heap.size w)
 have H : ((zAQ.f k a0_3).bind fun t305 => (if a0_0 = 2 then (zAr.j0 k t305 a0_0 (a0_0 == 2) a0_0 a0_1 a0_2 a0_3 l0_4) else (if a0_0 = 3 then (zAr.j0 k t305 a0_0 (a0_0 == 3) a0_0 a0_1 a0_2 a0_3 l0_4) else (if a0_0 = 4 then (zAr.j0 k t305 a0_0 (a0_0 == 4) a0_0 a0_1 a0_2 a0_3 l0_4) else (if a0_0 = 5 then (zAr.j0 k t305 a0_0 (a0_0 == 5) a0_0 a0_1 a0_2 a0_3 l0_4) else (if a0_0 = 7 then (zAr.j0 k t305 a0_0 (a0_0 == 7) a0_0 a0_1 a0_2 a0_3 l0_4) else (if a0_0 = 8 then (zAr.j0 k t305 a0_0 (a0_0 == 8) a0_0 a0_1 a0_2 a0_3 l0_4) else (if a0_0 = 9 then (zAr.j0 k t305 a0_0 (a0_0 == 9) a0_0 a0_1 a0_2 a0_3 l0_4) else (if a0_0 = 16 then (zAr.j0 k t305 a0_0 (a0_0 == 16) a0_0 a0_1 a0_2 a0_3 l0_4) else (if a0_0 = 17 then (zAr.j0 k t305 a0_0 (a0_0 == 17) a0_0 a0_1 a0_2 a0_3 l0_4) else (if a0_0 = 18 then (zAr.j0 k t305 a0_0 (a0_0 == 18) a0_0 a0_1 a0_2 a0_3 l0_4) else (if a0_0 = 19 then (zAr.j0 k t305 a0_0 (a0_0 == 19) a0_0 a0_1 a0_2 a0_3 l0_4) else (if a0_0 = 22 then (zAr.j0 k t305 a0_0 (a0_0 == 22) a0_0 a0_1 a0_2 a0_3 l0_4) else (if a0_0 = 23 then (zAr.j0 k t305 a0_0 (a0_0 == 23) a0_0 a0_1 a0_2 a0_3 l0_4) else (if a0_0 = 24 then (zAr.j0 k t305 a0_0 (a0_0 == 24) a0_0 a0_1 a0_2 a0_3 l0_4) else (zAr.j0 k t305 a0_0 (a0_0 == 25) a0_0 a0_1 a0_2 a0_3 l0_4)))))))))))))))) = some r:=h
 clear h
 replace H:=Option.bind_eq_some_iff.mp H
 obtain ⟨t305,A20,H⟩:=H
 replace H : (if a0_0 = 2 then (zAr.j0 k t305 a0_0 (a0_0 == 2) a0_0 a0_1 a0_2 a0_3 l0_4) else (if a0_0 = 3 then (zAr.j0 k t305 a0_0 (a0_0 == 3) a0_0 a0_1 a0_2 a0_3 l0_4) else (if a0_0 = 4 then (zAr.j0 k t305 a0_0 (a0_0 == 4) a0_0 a0_1 a0_2 a0_3 l0_4) else (if a0_0 = 5 then (zAr.j0 k t305 a0_0 (a0_0 == 5) a0_0 a0_1 a0_2 a0_3 l0_4) else (if a0_0 = 7 then (zAr.j0 k t305 a0_0 (a0_0 == 7) a0_0 a0_1 a0_2 a0_3 l0_4) else (if a0_0 = 8 then (zAr.j0 k t305 a0_0 (a0_0 == 8) a0_0 a0_1 a0_2 a0_3 l0_4) else (if a0_0 = 9 then (zAr.j0 k t305 a0_0 (a0_0 == 9) a0_0 a0_1 a0_2 a0_3 l0_4) else (if a0_0 = 16 then (zAr.j0 k t305 a0_0 (a0_0 == 16) a0_0 a0_1 a0_2 a0_3 l0_4) else (if a0_0 = 17 then (zAr.j0 k t305 a0_0 (a0_0 == 17) a0_0 a0_1 a0_2 a0_3 l0_4) else (if a0_0 = 18 then (zAr.j0 k t305 a0_0 (a0_0 == 18) a0_0 a0_1 a0_2 a0_3 l0_4) else (if a0_0 = 19 then (zAr.j0 k t305 a0_0 (a0_0 == 19) a0_0 a0_1 a0_2 a0_3 l0_4) else (if a0_0 = 22 then (zAr.j0 k t305 a0_0 (a0_0 == 22) a0_0 a0_1 a0_2 a0_3 l0_4) else (if a0_0 = 23 then (zAr.j0 k t305 a0_0 (a0_0 == 23) a0_0 a0_1 a0_2 a0_3 l0_4) else (if a0_0 = 24 then (zAr.j0 k t305 a0_0 (a0_0 == 24) a0_0 a0_1 a0_2 a0_3 l0_4) else (zAr.j0 k t305 a0_0 (a0_0 == 25) a0_0 a0_1 a0_2 a0_3 l0_4))))))))))))))) = some r:=H
 have A2:=Aside0.mk A20
 clear A20
 have HC3:=Aside0.mk H
 clear H
 go_enter Try.func47,Try.ntmps47
 go_upto_if 9 with (first | ((with_reducible refine zAM (N:=1) rfl ?_); refine zAL ?hg (N:=1) ?hd (cs:=#[.int .i64 a0_0,.int .i64 a0_1,.int .i64 a0_2,.string a0_3,.slice A0_4 l0_4.length c0_4]) (t:=24) ?hr ?_; (case hd => rfl); (case hg => rfl); (case hr => first | (go_simp; done) | (go_simp; rfl)); intro gb304 hg w4 hbox hb; have n0_:=Aside0.mk (zAm (by repeat (first | (with_reducible first | exact HB.out | apply zAg | apply zAc | apply zAi) | exact HB.out)) hb); have n1_:=Aside0.mk (hbox); have n2_:=Aside0.mk ((by rw [hg]; exact (zAp (by repeat (first | (with_reducible first | exact HB.out | apply zAg | apply zAc | apply zAi) | exact HB.out))) : w.heap.size ≤ gb304)); have n3_:=Aside0.mk ((by rw [hg]; exact (zAp (by repeat (first | (with_reducible first | exact HB.out | apply zAg | apply zAc | apply zAi) | exact HB.out))) : w.heap.size ≤ gb304)); clear HB; have HB:=n0_; have BK304:=n1_; have GW304:=n2_; have GE304:=n3_; clear n0_ n1_ n2_ n3_; clear hb hbox hg; have hcz5_0 : w4.cell? ⟨gb304,0,none⟩ = some (.int .i64 a0_0):=(zAf BK304.out 0).trans rfl; have hcz5_1 : w4.cell? ⟨gb304,1,none⟩ = some (.int .i64 a0_1):=(zAf BK304.out 1).trans rfl; have hcz5_2 : w4.cell? ⟨gb304,2,none⟩ = some (.int .i64 a0_2):=(zAf BK304.out 2).trans rfl; have hcz5_3 : w4.cell? ⟨gb304,3,none⟩ = some (.string a0_3):=(zAf BK304.out 3).trans rfl; have hcz5_4 : w4.cell? ⟨gb304,4,none⟩ = some (.slice A0_4 l0_4.length c0_4):=(zAf BK304.out 4).trans rfl; have hfz5_0:=zAe BK304.out 0; have hfz5_1:=zAe BK304.out 1; have hfz5_2:=zAe BK304.out 2; have hfz5_3:=zAe BK304.out 3; have hfz5_4:=zAe BK304.out 4) | ((with_reducible refine zAA (f:=55) rfl ?_); refine goesL_ (some 6) rfl rfl Try.func55 (by kernel_rfl) rfl #[.string a0_3] rfl (by (try simp only [List.map_toArray,List.map_cons,List.map_nil]); first | done | rfl | (simp only [List.length_drop,List.length_take]; rfl)) ?_; (with_reducible refine (zAQ.calls k a0_3 t305 _ A2.out).mono ?_); rintro e w6 ⟨rfl,hb⟩; refine ⟨_,rfl,?_⟩; have n0_:=Aside0.mk (zAs (g:=gb304) (o:=.cells #[.int .i64 a0_0,.int .i64 a0_1,.int .i64 a0_2,.string a0_3,.slice A0_4 l0_4.length c0_4] 24 (0,0)) (by (with_reducible repeat (first | apply zAb | apply zAd | apply zAa)); exact BK304.out) hb); have n1_:=Aside0.mk (zAm (by repeat (first | (with_reducible first | exact HB.out | apply zAg | apply zAc | apply zAi | refine zAh ?_ GE304.out) | exact HB.out)) hb); clear BK304; clear HB; have BK304:=n0_; have HB:=n1_; clear n0_ n1_; (try clear hb); (try clear hb2); (try clear hk); (try clear hi); have hcz7_0 : w6.cell? ⟨gb304,0,none⟩ = some (.int .i64 a0_0):=(zAf BK304.out 0).trans rfl; have hcz7_1 : w6.cell? ⟨gb304,1,none⟩ = some (.int .i64 a0_1):=(zAf BK304.out 1).trans rfl; have hcz7_2 : w6.cell? ⟨gb304,2,none⟩ = some (.int .i64 a0_2):=(zAf BK304.out 2).trans rfl; have hcz7_3 : w6.cell? ⟨gb304,3,none⟩ = some (.string a0_3):=(zAf BK304.out 3).trans rfl; have hcz7_4 : w6.cell? ⟨gb304,4,none⟩ = some (.slice A0_4 l0_4.length c0_4):=(zAf BK304.out 4).trans rfl; have hfz7_0:=zAe BK304.out 0; have hfz7_1:=zAe BK304.out 1; have hfz7_2:=zAe BK304.out 2; have hfz7_3:=zAe BK304.out 3; have hfz7_4:=zAe BK304.out 4))
 (try simp only [Act.put,List.setIfInBounds_toArray,List.set_cons_zero,List.set_cons_succ])
 go_cut [9] (fun v9 wc => ∃ (kq : Nat) (x9_2 : Bool),v9 = .bool x9_2 ∧ Aside0 (zAr.j0 kq t305 a0_0 x9_2 a0_0 a0_1 a0_2 a0_3 l0_4 = some r) ∧ Aside0 (kq ≤ k) ∧ Aside0 (wc.heap[gb304]? = some (.cells #[.int .i64 a0_0,.int .i64 a0_1,.int .i64 a0_2,.string a0_3,(.slice A0_4 l0_4.length c0_4)] 24 (0,0))) ∧ Aside0 (Below w.heap.size w wc))
 case first =>
  have H:=HC3.out
  clear HC3
  by_cases c8 : a0_0 = 2
  ·rw [if_pos c8] at H
   have c8b0 : (a0_0 == 2) = true:=beq_iff_eq.mpr c8
   have c8b1 : (a0_0 != 2) = false:=bne_eq_false_iff_eq.mpr c8
   clear c8
   (first | rw [c8b0] | (simp only [i64_w,i32_w]; rw [c8b0]) | skip)
   have H':=Aside0.mk H
   clear H
   go_wp2
   go_meet
   case rel => exact ⟨_,((a0_0 == 2)),(by first | rfl | (simp; done) | (simp [*]; done)),H',⟨by first | omega | exact Nat.le_refl _⟩,⟨by (with_reducible repeat (first | apply zAb | apply zAd | apply zAa)); exact BK304.out⟩,⟨by repeat (first | (with_reducible first | exact HB.out | apply zAg | apply zAc | apply zAi | refine zAh ?_ GE304.out) | exact HB.out)⟩⟩
  ·rw [if_neg c8] at H
   have c8b0 : (a0_0 == 2) = false:=beq_eq_false_iff_ne.mpr c8
   have c8b1 : (a0_0 != 2) = true:=bne_iff_ne.mpr c8
   (first | rw [c8b0] | (simp only [i64_w,i32_w]; rw [c8b0]) | skip)
   by_cases c9 : a0_0 = 3
   ·rw [if_pos c9] at H
    have c9b0 : (a0_0 == 3) = true:=beq_iff_eq.mpr c9
    have c9b1 : (a0_0 != 3) = false:=bne_eq_false_iff_eq.mpr c9
    clear c9
    have H':=Aside0.mk H
    clear H
    go_wp2
    go_meet
    case rel => exact ⟨_,((a0_0 == 3)),(by first | rfl | (simp; done) | (simp [*]; done)),H',⟨by first | omega | exact Nat.le_refl _⟩,⟨by (with_reducible repeat (first | apply zAb | apply zAd | apply zAa)); exact BK304.out⟩,⟨by repeat (first | (with_reducible first | exact HB.out | apply zAg | apply zAc | apply zAi | refine zAh ?_ GE304.out) | exact HB.out)⟩⟩
   ·rw [if_neg c9] at H
    have c9b0 : (a0_0 == 3) = false:=beq_eq_false_iff_ne.mpr c9
    have c9b1 : (a0_0 != 3) = true:=bne_iff_ne.mpr c9
    by_cases c10 : a0_0 = 4
    ·rw [if_pos c10] at H
     have c10b0 : (a0_0 == 4) = true:=beq_iff_eq.mpr c10
     have c10b1 : (a0_0 != 4) = false:=bne_eq_false_iff_eq.mpr c10
     clear c10
     have H':=Aside0.mk H
     clear H
     go_wp2
     go_meet
     case rel => exact ⟨_,((a0_0 == 4)),(by first | rfl | (simp; done) | (simp [*]; done)),H',⟨by first | omega | exact Nat.le_refl _⟩,⟨by (with_reducible repeat (first | apply zAb | apply zAd | apply zAa)); exact BK304.out⟩,⟨by repeat (first | (with_reducible first | exact HB.out | apply zAg | apply zAc | apply zAi | refine zAh ?_ GE304.out) | exact HB.out)⟩⟩
    ·rw [if_neg c10] at H
     have c10b0 : (a0_0 == 4) = false:=beq_eq_false_iff_ne.mpr c10
     have c10b1 : (a0_0 != 4) = true:=bne_iff_ne.mpr c10
     by_cases c11 : a0_0 = 5
     ·rw [if_pos c11] at H
      have c11b0 : (a0_0 == 5) = true:=beq_iff_eq.mpr c11
      have c11b1 : (a0_0 != 5) = false:=bne_eq_false_iff_eq.mpr c11
      clear c11
      have H':=Aside0.mk H
      clear H
      go_wp2
      go_meet
      case rel => exact ⟨_,((a0_0 == 5)),(by first | rfl | (simp; done) | (simp [*]; done)),H',⟨by first | omega | exact Nat.le_refl _⟩,⟨by (with_reducible repeat (first | apply zAb | apply zAd | apply zAa)); exact BK304.out⟩,⟨by repeat (first | (with_reducible first | exact HB.out | apply zAg | apply zAc | apply zAi | refine zAh ?_ GE304.out) | exact HB.out)⟩⟩
     ·rw [if_neg c11] at H
      have c11b0 : (a0_0 == 5) = false:=beq_eq_false_iff_ne.mpr c11
      have c11b1 : (a0_0 != 5) = true:=bne_iff_ne.mpr c11
      by_cases c12 : a0_0 = 7
      ·rw [if_pos c12] at H
       have c12b0 : (a0_0 == 7) = true:=beq_iff_eq.mpr c12
       have c12b1 : (a0_0 != 7) = false:=bne_eq_false_iff_eq.mpr c12
       clear c12
       have H':=Aside0.mk H
       clear H
       go_wp2
       go_meet
       case rel => exact ⟨_,((a0_0 == 7)),(by first | rfl | (simp; done) | (simp [*]; done)),H',⟨by first | omega | exact Nat.le_refl _⟩,⟨by (with_reducible repeat (first | apply zAb | apply zAd | apply zAa)); exact BK304.out⟩,⟨by repeat (first | (with_reducible first | exact HB.out | apply zAg | apply zAc | apply zAi | refine zAh ?_ GE304.out) | exact HB.out)⟩⟩
      ·rw [if_neg c12] at H
       have c12b0 : (a0_0 == 7) = false:=beq_eq_false_iff_ne.mpr c12
       have c12b1 : (a0_0 != 7) = true:=bne_iff_ne.mpr c12
       by_cases c13 : a0_0 = 8
       ·rw [if_pos c13] at H
        have c13b0 : (a0_0 == 8) = true:=beq_iff_eq.mpr c13
        have c13b1 : (a0_0 != 8) = false:=bne_eq_false_iff_eq.mpr c13
        clear c13
        have H':=Aside0.mk H
        clear H
        go_wp2
        go_meet
        case rel => exact ⟨_,((a0_0 == 8)),(by first | rfl | (simp; done) | (simp [*]; done)),H',⟨by first | omega | exact Nat.le_refl _⟩,⟨by (with_reducible repeat (first | apply zAb | apply zAd | apply zAa)); exact BK304.out⟩,⟨by repeat (first | (with_reducible first | exact HB.out | apply zAg | apply zAc | apply zAi | refine zAh ?_ GE304.out) | exact HB.out)⟩⟩
       ·rw [if_neg c13] at H
        have c13b0 : (a0_0 == 8) = false:=beq_eq_false_iff_ne.mpr c13
        have c13b1 : (a0_0 != 8) = true:=bne_iff_ne.mpr c13
        by_cases c14 : a0_0 = 9
        ·rw [if_pos c14] at H
         have c14b0 : (a0_0 == 9) = true:=beq_iff_eq.mpr c14
         have c14b1 : (a0_0 != 9) = false:=bne_eq_false_iff_eq.mpr c14
         clear c14
         have H':=Aside0.mk H
         clear H
         go_wp2
         go_meet
         case rel => exact ⟨_,((a0_0 == 9)),(by first | rfl | (simp; done) | (simp [*]; done)),H',⟨by first | omega | exact Nat.le_refl _⟩,⟨by (with_reducible repeat (first | apply zAb | apply zAd | apply zAa)); exact BK304.out⟩,⟨by repeat (first | (with_reducible first | exact HB.out | apply zAg | apply zAc | apply zAi | refine zAh ?_ GE304.out) | exact HB.out)⟩⟩
        ·rw [if_neg c14] at H
         have c14b0 : (a0_0 == 9) = false:=beq_eq_false_iff_ne.mpr c14
         have c14b1 : (a0_0 != 9) = true:=bne_iff_ne.mpr c14
         by_cases c15 : a0_0 = 16
         ·rw [if_pos c15] at H
          have c15b0 : (a0_0 == 16) = true:=beq_iff_eq.mpr c15
          have c15b1 : (a0_0 != 16) = false:=bne_eq_false_iff_eq.mpr c15
          clear c15
          have H':=Aside0.mk H
          clear H
          go_wp2
          go_meet
          case rel => exact ⟨_,((a0_0 == 16)),(by first | rfl | (simp; done) | (simp [*]; done)),H',⟨by first | omega | exact Nat.le_refl _⟩,⟨by (with_reducible repeat (first | apply zAb | apply zAd | apply zAa)); exact BK304.out⟩,⟨by repeat (first | (with_reducible first | exact HB.out | apply zAg | apply zAc | apply zAi | refine zAh ?_ GE304.out) | exact HB.out)⟩⟩
         ·rw [if_neg c15] at H
          have c15b0 : (a0_0 == 16) = false:=beq_eq_false_iff_ne.mpr c15
          have c15b1 : (a0_0 != 16) = true:=bne_iff_ne.mpr c15
          by_cases c16 : a0_0 = 17
          ·rw [if_pos c16] at H
           have c16b0 : (a0_0 == 17) = true:=beq_iff_eq.mpr c16
           have c16b1 : (a0_0 != 17) = false:=bne_eq_false_iff_eq.mpr c16
           clear c16
           have H':=Aside0.mk H
           clear H
           go_wp2
           go_meet
           case rel => exact ⟨_,((a0_0 == 17)),(by first | rfl | (simp; done) | (simp [*]; done)),H',⟨by first | omega | exact Nat.le_refl _⟩,⟨by (with_reducible repeat (first | apply zAb | apply zAd | apply zAa)); exact BK304.out⟩,⟨by repeat (first | (with_reducible first | exact HB.out | apply zAg | apply zAc | apply zAi | refine zAh ?_ GE304.out) | exact HB.out)⟩⟩
          ·rw [if_neg c16] at H
           have c16b0 : (a0_0 == 17) = false:=beq_eq_false_iff_ne.mpr c16
           have c16b1 : (a0_0 != 17) = true:=bne_iff_ne.mpr c16
           by_cases c17 : a0_0 = 18
           ·rw [if_pos c17] at H
            have c17b0 : (a0_0 == 18) = true:=beq_iff_eq.mpr c17
            have c17b1 : (a0_0 != 18) = false:=bne_eq_false_iff_eq.mpr c17
            clear c17
            have H':=Aside0.mk H
            clear H
            go_wp2
            go_meet
            case rel => exact ⟨_,((a0_0 == 18)),(by first | rfl | (simp; done) | (simp [*]; done)),H',⟨by first | omega | exact Nat.le_refl _⟩,⟨by (with_reducible repeat (first | apply zAb | apply zAd | apply zAa)); exact BK304.out⟩,⟨by repeat (first | (with_reducible first | exact HB.out | apply zAg | apply zAc | apply zAi | refine zAh ?_ GE304.out) | exact HB.out)⟩⟩
           ·rw [if_neg c17] at H
            have c17b0 : (a0_0 == 18) = false:=beq_eq_false_iff_ne.mpr c17
            have c17b1 : (a0_0 != 18) = true:=bne_iff_ne.mpr c17
            by_cases c18 : a0_0 = 19
            ·rw [if_pos c18] at H
             have c18b0 : (a0_0 == 19) = true:=beq_iff_eq.mpr c18
             have c18b1 : (a0_0 != 19) = false:=bne_eq_false_iff_eq.mpr c18
             clear c18
             have H':=Aside0.mk H
             clear H
             go_wp2
             go_meet
             case rel => exact ⟨_,((a0_0 == 19)),(by first | rfl | (simp; done) | (simp [*]; done)),H',⟨by first | omega | exact Nat.le_refl _⟩,⟨by (with_reducible repeat (first | apply zAb | apply zAd | apply zAa)); exact BK304.out⟩,⟨by repeat (first | (with_reducible first | exact HB.out | apply zAg | apply zAc | apply zAi | refine zAh ?_ GE304.out) | exact HB.out)⟩⟩
            ·rw [if_neg c18] at H
             have c18b0 : (a0_0 == 19) = false:=beq_eq_false_iff_ne.mpr c18
             have c18b1 : (a0_0 != 19) = true:=bne_iff_ne.mpr c18
             by_cases c19 : a0_0 = 22
             ·rw [if_pos c19] at H
              have c19b0 : (a0_0 == 22) = true:=beq_iff_eq.mpr c19
              have c19b1 : (a0_0 != 22) = false:=bne_eq_false_iff_eq.mpr c19
              clear c19
              have H':=Aside0.mk H
              clear H
              go_wp2
              go_meet
              case rel => exact ⟨_,((a0_0 == 22)),(by first | rfl | (simp; done) | (simp [*]; done)),H',⟨by first | omega | exact Nat.le_refl _⟩,⟨by (with_reducible repeat (first | apply zAb | apply zAd | apply zAa)); exact BK304.out⟩,⟨by repeat (first | (with_reducible first | exact HB.out | apply zAg | apply zAc | apply zAi | refine zAh ?_ GE304.out) | exact HB.out)⟩⟩
             ·rw [if_neg c19] at H
              have c19b0 : (a0_0 == 22) = false:=beq_eq_false_iff_ne.mpr c19
              have c19b1 : (a0_0 != 22) = true:=bne_iff_ne.mpr c19
              by_cases c20 : a0_0 = 23
              ·rw [if_pos c20] at H
               have c20b0 : (a0_0 == 23) = true:=beq_iff_eq.mpr c20
               have c20b1 : (a0_0 != 23) = false:=bne_eq_false_iff_eq.mpr c20
               clear c20
               have H':=Aside0.mk H
               clear H
               go_wp2
               go_meet
               case rel => exact ⟨_,((a0_0 == 23)),(by first | rfl | (simp; done) | (simp [*]; done)),H',⟨by first | omega | exact Nat.le_refl _⟩,⟨by (with_reducible repeat (first | apply zAb | apply zAd | apply zAa)); exact BK304.out⟩,⟨by repeat (first | (with_reducible first | exact HB.out | apply zAg | apply zAc | apply zAi | refine zAh ?_ GE304.out) | exact HB.out)⟩⟩
              ·rw [if_neg c20] at H
               have c20b0 : (a0_0 == 23) = false:=beq_eq_false_iff_ne.mpr c20
               have c20b1 : (a0_0 != 23) = true:=bne_iff_ne.mpr c20
               by_cases c21 : a0_0 = 24
               ·rw [if_pos c21] at H
                have c21b0 : (a0_0 == 24) = true:=beq_iff_eq.mpr c21
                have c21b1 : (a0_0 != 24) = false:=bne_eq_false_iff_eq.mpr c21
                clear c21
                have H':=Aside0.mk H
                clear H
                go_wp2
                go_meet
                case rel => exact ⟨_,((a0_0 == 24)),(by first | rfl | (simp; done) | (simp [*]; done)),H',⟨by first | omega | exact Nat.le_refl _⟩,⟨by (with_reducible repeat (first | apply zAb | apply zAd | apply zAa)); exact BK304.out⟩,⟨by repeat (first | (with_reducible first | exact HB.out | apply zAg | apply zAc | apply zAi | refine zAh ?_ GE304.out) | exact HB.out)⟩⟩
               ·rw [if_neg c21] at H
                have c21b0 : (a0_0 == 24) = false:=beq_eq_false_iff_ne.mpr c21
                have c21b1 : (a0_0 != 24) = true:=bne_iff_ne.mpr c21
                have H':=Aside0.mk H
                clear H
                go_wp2
                go_meet
                case rel => exact ⟨_,((a0_0 == 25)),(by first | rfl | (simp; done) | (simp [*]; done)),H',⟨by first | omega | exact Nat.le_refl _⟩,⟨by (with_reducible repeat (first | apply zAb | apply zAd | apply zAa)); exact BK304.out⟩,⟨by repeat (first | (with_reducible first | exact HB.out | apply zAg | apply zAc | apply zAi | refine zAh ?_ GE304.out) | exact HB.out)⟩⟩
 case rest =>
  clear HC3
  try clear c1
  try clear c2
  try clear p2
  try clear c4
  try clear c5
  try clear c8
  try clear c8b0
  try clear c8b1
  try clear c9
  try clear c9b0
  try clear c9b1
  try clear c10
  try clear c10b0
  try clear c10b1
  try clear c11
  try clear c11b0
  try clear c11b1
  try clear c12
  try clear c12b0
  try clear c12b1
  try clear c13
  try clear c13b0
  try clear c13b1
  try clear c14
  try clear c14b0
  try clear c14b1
  try clear c15
  try clear c15b0
  try clear c15b1
  try clear c16
  try clear c16b0
  try clear c16b1
  try clear c17
  try clear c17b0
  try clear c17b1
  try clear c18
  try clear c18b0
  try clear c18b1
  try clear c19
  try clear c19b0
  try clear c19b1
  try clear c20
  try clear c20b0
  try clear c20b1
  try clear c21
  try clear c21b0
  try clear c21b1
  try clear hcz5_0
  try clear hcz5_1
  try clear hcz5_2
  try clear hcz5_3
  try clear hcz5_4
  try clear hcz7_0
  try clear hcz7_1
  try clear hcz7_2
  try clear hcz7_3
  try clear hcz7_4
  try clear hfz5_0
  try clear hfz5_1
  try clear hfz5_2
  try clear hfz5_3
  try clear hfz5_4
  try clear hfz7_0
  try clear hfz7_1
  try clear hfz7_2
  try clear hfz7_3
  try clear hfz7_4
  obtain ⟨kq,x9_2,rfl,HA,HJ2,BK304,HB⟩:=hcut
  cases kq with
  | zero => exact absurd HA.out (by simp [zAr.j0])
  | succ kj2 =>
   have H:=HA.out
   clear HA
   simp only [zAr.j0] at H
   by_cases c22 : x9_2 = true
   ·subst c22
    have H1 : (some t305) = some r:=by rw [if_pos rfl] at H; exact H
    clear H
    have H:=H1
    clear H1
    obtain rfl:=Option.some.inj H
    go_wp2
    go_ret
    exact ⟨by first | rfl | (simp [zAo,zAn] <;> rfl) | (simp [*,zAo,zAn] <;> rfl),by repeat (first | (with_reducible first | exact HB.out | apply zAg | apply zAc | apply zAi | refine zAh ?_ GE304.out) | exact HB.out)⟩
   ·replace c22:=Bool.eq_false_iff.mpr c22
    subst c22
    have H1 : (if a0_0 = 13 then (if t305 = true then (some true) else (some (a0_3.toList == ([] : List UInt8)))) else (if a0_0 = 26 then (if a0_3.toList = ([45] : List UInt8) then (some true) else (some (a0_3.toList == ([33] : List UInt8)))) else (if a0_0 = 27 then ((zAN.f kj2 a0_3).bind fun t306 => (some t306)) else (some (a0_3.toList == ([] : List UInt8)))))) = some r:=by rw [if_neg (show ¬ (false = true) by decide)] at H; exact H
    clear H
    have H:=H1
    clear H1
    by_cases c23 : a0_0 = 13
    ·rw [if_pos c23] at H
     have c23b0 : (a0_0 == 13) = true:=beq_iff_eq.mpr c23
     have c23b1 : (a0_0 != 13) = false:=bne_eq_false_iff_eq.mpr c23
     clear c23
     by_cases c24 : t305 = true
     ·subst c24
      have H1 : (some true) = some r:=by rw [if_pos rfl] at H; exact H
      clear H
      have H:=H1
      clear H1
      obtain rfl:=Option.some.inj H
      go_wp2
      go_ret
      exact ⟨by first | rfl | (simp [zAo,zAn] <;> rfl) | (simp [*,zAo,zAn] <;> rfl),by repeat (first | (with_reducible first | exact HB.out | apply zAg | apply zAc | apply zAi | refine zAh ?_ GE304.out) | exact HB.out)⟩
     ·replace c24:=Bool.eq_false_iff.mpr c24
      subst c24
      have H1 : (some (a0_3.toList == ([] : List UInt8))) = some r:=by rw [if_neg (show ¬ (false = true) by decide)] at H; exact H
      clear H
      have H:=H1
      clear H1
      obtain rfl:=Option.some.inj H
      have hcz25_0 : wc.cell? ⟨gb304,0,none⟩ = some (.int .i64 a0_0):=(zAf BK304.out 0).trans rfl
      have hcz25_1 : wc.cell? ⟨gb304,1,none⟩ = some (.int .i64 a0_1):=(zAf BK304.out 1).trans rfl
      have hcz25_2 : wc.cell? ⟨gb304,2,none⟩ = some (.int .i64 a0_2):=(zAf BK304.out 2).trans rfl
      have hcz25_3 : wc.cell? ⟨gb304,3,none⟩ = some (.string a0_3):=(zAf BK304.out 3).trans rfl
      have hcz25_4 : wc.cell? ⟨gb304,4,none⟩ = some (.slice A0_4 l0_4.length c0_4):=(zAf BK304.out 4).trans rfl
      have hfz25_0:=zAe BK304.out 0
      have hfz25_1:=zAe BK304.out 1
      have hfz25_2:=zAe BK304.out 2
      have hfz25_3:=zAe BK304.out 3
      have hfz25_4:=zAe BK304.out 4
      go_wp2
      go_ret
      exact ⟨by first | rfl | (simp [zAo,zAn] <;> rfl) | (simp [*,zAo,zAn] <;> rfl),by repeat (first | (with_reducible first | exact HB.out | apply zAg | apply zAc | apply zAi | refine zAh ?_ GE304.out) | exact HB.out)⟩
    ·rw [if_neg c23] at H
     have c23b0 : (a0_0 == 13) = false:=beq_eq_false_iff_ne.mpr c23
     have c23b1 : (a0_0 != 13) = true:=bne_iff_ne.mpr c23
     by_cases c26 : a0_0 = 26
     ·rw [if_pos c26] at H
      have c26b0 : (a0_0 == 26) = true:=beq_iff_eq.mpr c26
      have c26b1 : (a0_0 != 26) = false:=bne_eq_false_iff_eq.mpr c26
      clear c26
      by_cases c27 : a0_3.toList = ([45] : List UInt8)
      ·rw [if_pos c27] at H
       have c27b0 : (a0_3.toList == ([45] : List UInt8)) = true:=beq_iff_eq.mpr c27
       have c27b1 : (a0_3.toList != ([45] : List UInt8)) = false:=bne_eq_false_iff_eq.mpr c27
       clear c27
       obtain rfl:=Option.some.inj H
       have hcz28_0 : wc.cell? ⟨gb304,0,none⟩ = some (.int .i64 a0_0):=(zAf BK304.out 0).trans rfl
       have hcz28_1 : wc.cell? ⟨gb304,1,none⟩ = some (.int .i64 a0_1):=(zAf BK304.out 1).trans rfl
       have hcz28_2 : wc.cell? ⟨gb304,2,none⟩ = some (.int .i64 a0_2):=(zAf BK304.out 2).trans rfl
       have hcz28_3 : wc.cell? ⟨gb304,3,none⟩ = some (.string a0_3):=(zAf BK304.out 3).trans rfl
       have hcz28_4 : wc.cell? ⟨gb304,4,none⟩ = some (.slice A0_4 l0_4.length c0_4):=(zAf BK304.out 4).trans rfl
       have hfz28_0:=zAe BK304.out 0
       have hfz28_1:=zAe BK304.out 1
       have hfz28_2:=zAe BK304.out 2
       have hfz28_3:=zAe BK304.out 3
       have hfz28_4:=zAe BK304.out 4
       go_wp2
       go_ret
       exact ⟨by first | rfl | (simp [zAo,zAn] <;> rfl) | (simp [*,zAo,zAn] <;> rfl),by repeat (first | (with_reducible first | exact HB.out | apply zAg | apply zAc | apply zAi | refine zAh ?_ GE304.out) | exact HB.out)⟩
      ·rw [if_neg c27] at H
       have c27b0 : (a0_3.toList == ([45] : List UInt8)) = false:=beq_eq_false_iff_ne.mpr c27
       have c27b1 : (a0_3.toList != ([45] : List UInt8)) = true:=bne_iff_ne.mpr c27
       obtain rfl:=Option.some.inj H
       have hcz29_0 : wc.cell? ⟨gb304,0,none⟩ = some (.int .i64 a0_0):=(zAf BK304.out 0).trans rfl
       have hcz29_1 : wc.cell? ⟨gb304,1,none⟩ = some (.int .i64 a0_1):=(zAf BK304.out 1).trans rfl
       have hcz29_2 : wc.cell? ⟨gb304,2,none⟩ = some (.int .i64 a0_2):=(zAf BK304.out 2).trans rfl
       have hcz29_3 : wc.cell? ⟨gb304,3,none⟩ = some (.string a0_3):=(zAf BK304.out 3).trans rfl
       have hcz29_4 : wc.cell? ⟨gb304,4,none⟩ = some (.slice A0_4 l0_4.length c0_4):=(zAf BK304.out 4).trans rfl
       have hfz29_0:=zAe BK304.out 0
       have hfz29_1:=zAe BK304.out 1
       have hfz29_2:=zAe BK304.out 2
       have hfz29_3:=zAe BK304.out 3
       have hfz29_4:=zAe BK304.out 4
       go_wp2
       go_ret
       exact ⟨by first | rfl | (simp [zAo,zAn] <;> rfl) | (simp [*,zAo,zAn] <;> rfl),by repeat (first | (with_reducible first | exact HB.out | apply zAg | apply zAc | apply zAi | refine zAh ?_ GE304.out) | exact HB.out)⟩
     ·rw [if_neg c26] at H
      have c26b0 : (a0_0 == 26) = false:=beq_eq_false_iff_ne.mpr c26
      have c26b1 : (a0_0 != 26) = true:=bne_iff_ne.mpr c26
      by_cases c30 : a0_0 = 27
      ·rw [if_pos c30] at H
       have c30b0 : (a0_0 == 27) = true:=beq_iff_eq.mpr c30
       have c30b1 : (a0_0 != 27) = false:=bne_eq_false_iff_eq.mpr c30
       clear c30
       replace H:=Option.bind_eq_some_iff.mp H
       obtain ⟨t306,A310,H⟩:=H
       replace H : (some t306) = some r:=H
       have A31:=Aside0.mk A310
       clear A310
       obtain rfl:=Option.some.inj H
       have hcz32_0 : wc.cell? ⟨gb304,0,none⟩ = some (.int .i64 a0_0):=(zAf BK304.out 0).trans rfl
       have hcz32_1 : wc.cell? ⟨gb304,1,none⟩ = some (.int .i64 a0_1):=(zAf BK304.out 1).trans rfl
       have hcz32_2 : wc.cell? ⟨gb304,2,none⟩ = some (.int .i64 a0_2):=(zAf BK304.out 2).trans rfl
       have hcz32_3 : wc.cell? ⟨gb304,3,none⟩ = some (.string a0_3):=(zAf BK304.out 3).trans rfl
       have hcz32_4 : wc.cell? ⟨gb304,4,none⟩ = some (.slice A0_4 l0_4.length c0_4):=(zAf BK304.out 4).trans rfl
       have hfz32_0:=zAe BK304.out 0
       have hfz32_1:=zAe BK304.out 1
       have hfz32_2:=zAe BK304.out 2
       have hfz32_3:=zAe BK304.out 3
       have hfz32_4:=zAe BK304.out 4
       go_wp2_with (first | ((with_reducible refine zAA (f:=56) rfl ?_); refine goesL_ (some 48) rfl rfl Try.func56 (by kernel_rfl) rfl #[.string a0_3] rfl (by (try simp only [List.map_toArray,List.map_cons,List.map_nil]); first | done | rfl | (simp only [List.length_drop,List.length_take]; rfl)) ?_; (with_reducible refine (zAN.calls kj2 a0_3 t306 _ A31.out).mono ?_); rintro e w33 ⟨rfl,hb⟩; refine ⟨_,rfl,?_⟩; have n0_:=Aside0.mk (zAs (g:=gb304) (o:=.cells #[.int .i64 a0_0,.int .i64 a0_1,.int .i64 a0_2,.string a0_3,.slice A0_4 l0_4.length c0_4] 24 (0,0)) (by (with_reducible repeat (first | apply zAb | apply zAd | apply zAa)); exact BK304.out) hb); have n1_:=Aside0.mk (zAm (by repeat (first | (with_reducible first | exact HB.out | apply zAg | apply zAc | apply zAi | refine zAh ?_ GE304.out) | exact HB.out)) hb); clear BK304; clear HB; have BK304:=n0_; have HB:=n1_; clear n0_ n1_; (try clear hb); (try clear hb2); (try clear hk); (try clear hi)))
       go_ret
       exact ⟨by first | rfl | (simp [zAo,zAn] <;> rfl) | (simp [*,zAo,zAn] <;> rfl),by repeat (first | (with_reducible first | exact HB.out | apply zAg | apply zAc | apply zAi | refine zAh ?_ GE304.out) | exact HB.out)⟩
      ·rw [if_neg c30] at H
       have c30b0 : (a0_0 == 27) = false:=beq_eq_false_iff_ne.mpr c30
       have c30b1 : (a0_0 != 27) = true:=bne_iff_ne.mpr c30
       obtain rfl:=Option.some.inj H
       have hcz34_0 : wc.cell? ⟨gb304,0,none⟩ = some (.int .i64 a0_0):=(zAf BK304.out 0).trans rfl
       have hcz34_1 : wc.cell? ⟨gb304,1,none⟩ = some (.int .i64 a0_1):=(zAf BK304.out 1).trans rfl
       have hcz34_2 : wc.cell? ⟨gb304,2,none⟩ = some (.int .i64 a0_2):=(zAf BK304.out 2).trans rfl
       have hcz34_3 : wc.cell? ⟨gb304,3,none⟩ = some (.string a0_3):=(zAf BK304.out 3).trans rfl
       have hcz34_4 : wc.cell? ⟨gb304,4,none⟩ = some (.slice A0_4 l0_4.length c0_4):=(zAf BK304.out 4).trans rfl
       have hfz34_0:=zAe BK304.out 0
       have hfz34_1:=zAe BK304.out 1
       have hfz34_2:=zAe BK304.out 2
       have hfz34_3:=zAe BK304.out 3
       have hfz34_4:=zAe BK304.out 4
       go_wp2
       go_ret
       exact ⟨by first | rfl | (simp [zAo,zAn] <;> rfl) | (simp [*,zAo,zAn] <;> rfl),by repeat (first | (with_reducible first | exact HB.out | apply zAg | apply zAc | apply zAi | refine zAh ?_ GE304.out) | exact HB.out)⟩
end Go.Proofs.Ytpggidmpkhmijaa.P
