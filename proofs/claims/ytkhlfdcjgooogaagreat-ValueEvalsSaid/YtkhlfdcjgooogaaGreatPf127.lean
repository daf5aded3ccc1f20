import Derived.Test.YtkhlfdcjgooogaaGreatPf103
import Derived.Test.YtkhlfdcjgooogaaGreatPf138
set_option maxRecDepth 100000
set_option maxHeartbeats 16000000
set_option linter.unusedVariables false
set_option linter.unusedSimpArgs false
set_option linter.unusedSectionVars false
namespace Go.Proofs.YtkhlfdcjgooogaaGreat.P
open Go.RowKit Go.Proofs.YtkhlfdcjgooogaaGreatW.PrintWords Go.Proofs.YtkhlfdcjgooogaaGreatW.PrintLast Go.Proofs.YtkhlfdcjgooogaaGreatW.PrintMore
attribute [local go_sem] zAP zAQ max_two min_two zAK zAJ zAS zAR
def zAv.l0 : Nat → ByteArray → List ByteArray → Int → Option (Bool)
 | 0,_,_,_ => none
 | k + 1,x0,x3,x4 => if x4 < (x3.length : Int) then (if 0 ≤ x4 then (if (rdOf ByteArray.empty x3 x4).toList = x0.toList then (some true) else (zAv.l0 k x0 x3 (wrap64 (x4 + 1)))) else (none)) else (some false)
def zAv.f (k : Nat) (a0 : ByteArray) : Option (Bool):=zAv.l0 k a0 (([(⟨#[118,97,114]⟩ : ByteArray),(⟨#[112,114,111,99]⟩ : ByteArray),(⟨#[105,110,116]⟩ : ByteArray),(⟨#[98,111,111,108]⟩ : ByteArray),(⟨#[97,114,114]⟩ : ByteArray),(⟨#[102,117,110]⟩ : ByteArray),(⟨#[105,110]⟩ : ByteArray),(⟨#[111,117,116]⟩ : ByteArray),(⟨#[105,102]⟩ : ByteArray),(⟨#[101,108,115,101]⟩ : ByteArray),(⟨#[119,104,105,108,101]⟩ : ByteArray),(⟨#[99,97,108,108]⟩ : ByteArray),(⟨#[114,101,116,117,114,110]⟩ : ByteArray),(⟨#[116,104,114,111,119]⟩ : ByteArray),(⟨#[116,114,121]⟩ : ByteArray),(⟨#[99,97,116,99,104]⟩ : ByteArray),(⟨#[110,101,119]⟩ : ByteArray),(⟨#[108,101,110]⟩ : ByteArray),(⟨#[116,114,117,101]⟩ : ByteArray),(⟨#[102,97,108,115,101]⟩ : ByteArray)] : List ByteArray)) 0
theorem zAv.calls (k : Nat) (a0 : ByteArray) (r : Bool) (w : World) (h : zAv.f k a0 = some r) :
  Calls Tryz.prog 139 #[.string a0] w fun e w' => e = .returned (.bool r) ∧ Below w.heap.size w w':=by
 have HB:=Aside0.mk (Below.refl w.heap.size w)
 have H : (zAv.l0 k a0 (([(⟨#[118,97,114]⟩ : ByteArray),(⟨#[112,114,111,99]⟩ : ByteArray),(⟨#[105,110,116]⟩ : ByteArray),(⟨#[98,111,111,108]⟩ : ByteArray),(⟨#[97,114,114]⟩ : ByteArray),(⟨#[102,117,110]⟩ : ByteArray),(⟨#[105,110]⟩ : ByteArray),(⟨#[111,117,116]⟩ : ByteArray),(⟨#[105,102]⟩ : ByteArray),(⟨#[101,108,115,101]⟩ : ByteArray),(⟨#[119,104,105,108,101]⟩ : ByteArray),(⟨#[99,97,108,108]⟩ : ByteArray),(⟨#[114,101,116,117,114,110]⟩ : ByteArray),(⟨#[116,104,114,111,119]⟩ : ByteArray),(⟨#[116,114,121]⟩ : ByteArray),(⟨#[99,97,116,99,104]⟩ : ByteArray),(⟨#[110,101,119]⟩ : ByteArray),(⟨#[108,101,110]⟩ : ByteArray),(⟨#[116,114,117,101]⟩ : ByteArray),(⟨#[102,97,108,115,101]⟩ : ByteArray)] : List ByteArray)) 0) = some r:=h
 clear h
 obtain ⟨y236,hy236⟩ : ∃ y_ : List ByteArray,y_ = (([(⟨#[118,97,114]⟩ : ByteArray),(⟨#[112,114,111,99]⟩ : ByteArray),(⟨#[105,110,116]⟩ : ByteArray),(⟨#[98,111,111,108]⟩ : ByteArray),(⟨#[97,114,114]⟩ : ByteArray),(⟨#[102,117,110]⟩ : ByteArray),(⟨#[105,110]⟩ : ByteArray),(⟨#[111,117,116]⟩ : ByteArray),(⟨#[105,102]⟩ : ByteArray),(⟨#[101,108,115,101]⟩ : ByteArray),(⟨#[119,104,105,108,101]⟩ : ByteArray),(⟨#[99,97,108,108]⟩ : ByteArray),(⟨#[114,101,116,117,114,110]⟩ : ByteArray),(⟨#[116,104,114,111,119]⟩ : ByteArray),(⟨#[116,114,121]⟩ : ByteArray),(⟨#[99,97,116,99,104]⟩ : ByteArray),(⟨#[110,101,119]⟩ : ByteArray),(⟨#[108,101,110]⟩ : ByteArray),(⟨#[116,114,117,101]⟩ : ByteArray),(⟨#[102,97,108,115,101]⟩ : ByteArray)] : List ByteArray)):=⟨_,rfl⟩
 replace H : (zAv.l0 k a0 y236 0) = some r:=by first | (rw [hy236]; with_reducible exact H) | (have H2_:=(Option.bind_some _ _).symm.trans H; rw [hy236]; with_reducible exact H2_) | (have H2_:=(Option.bind_some _ _).symm.trans H; with_reducible exact H2_) | with_reducible exact H | (rw [hy236]; exact H) | exact H
 have Ny236:=Aside0.mk hy236
 clear hy236
 have H':=Aside0.mk H
 clear H
 go_enter Tryz.func139,Tryz.ntmps139
 go_wp2_with (first | ((with_reducible refine zAZ (N:=5) rfl ?_); refine Kd.R_lit Kd.string _ 9 ?hg (N:=5) ?hd (xs:=([(⟨#[118,97,114]⟩ : ByteArray),(⟨#[112,114,111,99]⟩ : ByteArray),(⟨#[105,110,116]⟩ : ByteArray),(⟨#[98,111,111,108]⟩ : ByteArray),(⟨#[97,114,114]⟩ : ByteArray),(⟨#[102,117,110]⟩ : ByteArray),(⟨#[105,110]⟩ : ByteArray),(⟨#[111,117,116]⟩ : ByteArray),(⟨#[105,102]⟩ : ByteArray),(⟨#[101,108,115,101]⟩ : ByteArray),(⟨#[119,104,105,108,101]⟩ : ByteArray),(⟨#[99,97,108,108]⟩ : ByteArray),(⟨#[114,101,116,117,114,110]⟩ : ByteArray),(⟨#[116,104,114,111,119]⟩ : ByteArray),(⟨#[116,114,121]⟩ : ByteArray),(⟨#[99,97,116,99,104]⟩ : ByteArray),(⟨#[110,101,119]⟩ : ByteArray),(⟨#[108,101,110]⟩ : ByteArray),(⟨#[116,114,117,101]⟩ : ByteArray),(⟨#[102,97,108,115,101]⟩ : ByteArray)] : List ByteArray)) (inner:=[.string (⟨#[118,97,114]⟩ : ByteArray),.string (⟨#[112,114,111,99]⟩ : ByteArray),.string (⟨#[105,110,116]⟩ : ByteArray),.string (⟨#[98,111,111,108]⟩ : ByteArray),.string (⟨#[97,114,114]⟩ : ByteArray),.string (⟨#[102,117,110]⟩ : ByteArray),.string (⟨#[105,110]⟩ : ByteArray),.string (⟨#[111,117,116]⟩ : ByteArray),.string (⟨#[105,102]⟩ : ByteArray),.string (⟨#[101,108,115,101]⟩ : ByteArray),.string (⟨#[119,104,105,108,101]⟩ : ByteArray),.string (⟨#[99,97,108,108]⟩ : ByteArray),.string (⟨#[114,101,116,117,114,110]⟩ : ByteArray),.string (⟨#[116,104,114,111,119]⟩ : ByteArray),.string (⟨#[116,114,121]⟩ : ByteArray),.string (⟨#[99,97,116,99,104]⟩ : ByteArray),.string (⟨#[110,101,119]⟩ : ByteArray),.string (⟨#[108,101,110]⟩ : ByteArray),.string (⟨#[116,114,117,101]⟩ : ByteArray),.string (⟨#[102,97,108,115,101]⟩ : ByteArray)]) (ok:=fun _ => True) (okp:=fun _ => True) ?hr ?hp (fun _ hk => hk) trivial (Below.refl _ _) (Nat.le_refl _) (by simp) ?_; (case hd => rfl); (case hg => rfl); (case hr => first | (go_simp; done) | (go_simp; rfl)); (case hp => exact (Reps.one (show Kd.M Kd.string _ _ _ (⟨#[118,97,114]⟩ : ByteArray) [.string (⟨#[118,97,114]⟩ : ByteArray)] from rfl) (Reps.one (show Kd.M Kd.string _ _ _ (⟨#[112,114,111,99]⟩ : ByteArray) [.string (⟨#[112,114,111,99]⟩ : ByteArray)] from rfl) (Reps.one (show Kd.M Kd.string _ _ _ (⟨#[105,110,116]⟩ : ByteArray) [.string (⟨#[105,110,116]⟩ : ByteArray)] from rfl) (Reps.one (show Kd.M Kd.string _ _ _ (⟨#[98,111,111,108]⟩ : ByteArray) [.string (⟨#[98,111,111,108]⟩ : ByteArray)] from rfl) (Reps.one (show Kd.M Kd.string _ _ _ (⟨#[97,114,114]⟩ : ByteArray) [.string (⟨#[97,114,114]⟩ : ByteArray)] from rfl) (Reps.one (show Kd.M Kd.string _ _ _ (⟨#[102,117,110]⟩ : ByteArray) [.string (⟨#[102,117,110]⟩ : ByteArray)] from rfl) (Reps.one (show Kd.M Kd.string _ _ _ (⟨#[105,110]⟩ : ByteArray) [.string (⟨#[105,110]⟩ : ByteArray)] from rfl) (Reps.one (show Kd.M Kd.string _ _ _ (⟨#[111,117,116]⟩ : ByteArray) [.string (⟨#[111,117,116]⟩ : ByteArray)] from rfl) (Reps.one (show Kd.M Kd.string _ _ _ (⟨#[105,102]⟩ : ByteArray) [.string (⟨#[105,102]⟩ : ByteArray)] from rfl) (Reps.one (show Kd.M Kd.string _ _ _ (⟨#[101,108,115,101]⟩ : ByteArray) [.string (⟨#[101,108,115,101]⟩ : ByteArray)] from rfl) (Reps.one (show Kd.M Kd.string _ _ _ (⟨#[119,104,105,108,101]⟩ : ByteArray) [.string (⟨#[119,104,105,108,101]⟩ : ByteArray)] from rfl) (Reps.one (show Kd.M Kd.string _ _ _ (⟨#[99,97,108,108]⟩ : ByteArray) [.string (⟨#[99,97,108,108]⟩ : ByteArray)] from rfl) (Reps.one (show Kd.M Kd.string _ _ _ (⟨#[114,101,116,117,114,110]⟩ : ByteArray) [.string (⟨#[114,101,116,117,114,110]⟩ : ByteArray)] from rfl) (Reps.one (show Kd.M Kd.string _ _ _ (⟨#[116,104,114,111,119]⟩ : ByteArray) [.string (⟨#[116,104,114,111,119]⟩ : ByteArray)] from rfl) (Reps.one (show Kd.M Kd.string _ _ _ (⟨#[116,114,121]⟩ : ByteArray) [.string (⟨#[116,114,121]⟩ : ByteArray)] from rfl) (Reps.one (show Kd.M Kd.string _ _ _ (⟨#[99,97,116,99,104]⟩ : ByteArray) [.string (⟨#[99,97,116,99,104]⟩ : ByteArray)] from rfl) (Reps.one (show Kd.M Kd.string _ _ _ (⟨#[110,101,119]⟩ : ByteArray) [.string (⟨#[110,101,119]⟩ : ByteArray)] from rfl) (Reps.one (show Kd.M Kd.string _ _ _ (⟨#[108,101,110]⟩ : ByteArray) [.string (⟨#[108,101,110]⟩ : ByteArray)] from rfl) (Reps.one (show Kd.M Kd.string _ _ _ (⟨#[116,114,117,101]⟩ : ByteArray) [.string (⟨#[116,114,117,101]⟩ : ByteArray)] from rfl) (Reps.one (show Kd.M Kd.string _ _ _ (⟨#[102,97,108,115,101]⟩ : ByteArray) [.string (⟨#[102,97,108,115,101]⟩ : ByteArray)] from rfl) (Reps.none _ _)))))))))))))))))))))); intro v237 w2 ho3 hb hg_ hnew_; clear hg_ hnew_; (first | rw [← Ny236.out] at ho3 | (simp only [Int.reduceToNat] at ho3; rw [← Ny236.out] at ho3)); have n0_:=Aside0.mk (Kd.R_lower ho3 (zAy (by repeat (first | (with_reducible first | exact HB.out | apply zAa | apply zAf | apply zAi) | exact HB.out)))); have n1_:=Aside0.mk (zAd (by repeat (first | (with_reducible first | exact HB.out | apply zAa | apply zAf | apply zAi) | exact HB.out)) hb); clear HB; have HO238:=n0_; have HB:=n1_; clear n0_ n1_; clear hb ho3))
 go_loopg [4] k (fun kq v4 w' => ∃ (x4_1 : Int),v4 = .int .i64 x4_1 ∧ Aside0 (zAv.l0 kq a0 y236 x4_1 = some r) ∧ Aside0 (kq ≤ k) ∧ Aside0 (Kd.R Kd.string 9 w' w.heap.size (fun _ => True) v237 y236) ∧ Aside0 (Below w.heap.size w w'))
 case atStart => exact ⟨(0),(by first | rfl | (simp; done) | (simp [*]; done)),H',⟨Nat.le_refl _⟩,⟨by (with_reducible repeat (first | apply Kd.R_alloc | apply Kd.R_drewN | apply Kd.R_drew)); exact HO238.out⟩,⟨by repeat (first | (with_reducible first | exact HB.out | apply zAa | apply zAf | apply zAi) | exact HB.out)⟩⟩
 case round =>
  clear H'
  try clear c1
  try clear p2
  obtain ⟨x4_1,rfl,HA,HK1,HO_3,HB⟩:=hrel
  cases gk with
  | zero => exact absurd HA.out (by simp [zAv.l0])
  | succ k1 =>
   have H:=HA.out
   clear HA
   simp only [zAv.l0] at H
   by_cases c4 : x4_1 < (y236.length : Int)
   ·rw [if_pos c4] at H
    have c4b0 : decide (x4_1 < (y236.length : Int)) = true:=decide_eq_true c4
    clear c4
    by_cases c5 : 0 ≤ x4_1
    ·rw [if_pos c5] at H
     have c5b0 : decide (0 ≤ x4_1) = true:=decide_eq_true c5
     clear c5
     by_cases c6 : (rdOf ByteArray.empty y236 x4_1).toList = a0.toList
     ·rw [if_pos c6] at H
      have c6b0 : ((rdOf ByteArray.empty y236 x4_1).toList == a0.toList) = true:=beq_iff_eq.mpr c6
      have c6b1 : ((rdOf ByteArray.empty y236 x4_1).toList != a0.toList) = false:=bne_eq_false_iff_eq.mpr c6
      clear c6
      obtain rfl:=Option.some.inj H
      obtain ⟨Ao7,co7,eo7⟩:=Kd.R_slice HO_3.out
      subst eo7
      have p239 : 0 ≤ (x4_1 : Int):=of_decide_eq_true (by first | (with_reducible assumption) | assumption)
      have q239 : x4_1 < (y236.length : Int):=of_decide_eq_true (by first | (with_reducible assumption) | assumption)
      obtain ⟨ad239,e239,hx239_0⟩:=Kd.zBM (Kd.zBA HO_3.out).2.2 x4_1 p239 q239
      cases e239
      replace p239:=eq_true p239
      replace q239:=eq_true q239
      go_wp2
      go_ret
      exact ⟨by first | rfl | (simp [zAs,zAt] <;> rfl) | (simp [*,zAs,zAt] <;> rfl),by repeat (first | (with_reducible first | exact HB.out | apply zAa | apply zAf | apply zAi) | exact HB.out)⟩
     ·rw [if_neg c6] at H
      have c6b0 : ((rdOf ByteArray.empty y236 x4_1).toList == a0.toList) = false:=beq_eq_false_iff_ne.mpr c6
      have c6b1 : ((rdOf ByteArray.empty y236 x4_1).toList != a0.toList) = true:=bne_iff_ne.mpr c6
      have H':=Aside0.mk H
      clear H
      obtain ⟨Ao8,co8,eo8⟩:=Kd.R_slice HO_3.out
      subst eo8
      have p239 : 0 ≤ (x4_1 : Int):=of_decide_eq_true (by first | (with_reducible assumption) | assumption)
      have q239 : x4_1 < (y236.length : Int):=of_decide_eq_true (by first | (with_reducible assumption) | assumption)
      obtain ⟨ad239,e239,hx239_0⟩:=Kd.zBM (Kd.zBA HO_3.out).2.2 x4_1 p239 q239
      cases e239
      replace p239:=eq_true p239
      replace q239:=eq_true q239
      go_wp2
      go_roundg k1
      case measure => have:=HK1.out; omega
      case rel => exact ⟨(wrap64 (x4_1 + 1)),(by first | rfl | (simp; done) | (simp [*]; done)),H',⟨by have:=HK1.out; omega⟩,⟨by (with_reducible repeat (first | apply Kd.R_alloc | apply Kd.R_drewN | apply Kd.R_drew)); exact HO_3.out⟩,⟨by repeat (first | (with_reducible first | exact HB.out | apply zAa | apply zAf | apply zAi) | exact HB.out)⟩⟩
    ·rw [if_neg c5] at H
     exact absurd H (by simp)
   ·rw [if_neg c4] at H
    have c4b0 : decide (x4_1 < (y236.length : Int)) = false:=decide_eq_false c4
    clear c4
    obtain rfl:=Option.some.inj H
    obtain ⟨Ao9,co9,eo9⟩:=Kd.R_slice HO_3.out
    subst eo9
    go_wp2
    go_ret
    exact ⟨by first | rfl | (simp [zAs,zAt] <;> rfl) | (simp [*,zAs,zAt] <;> rfl),by repeat (first | (with_reducible first | exact HB.out | apply zAa | apply zAf | apply zAi) | exact HB.out)⟩
def zAB.l0 : Nat → ByteArray → Int → Option (Bool)
 | 0,_,_ => none
 | k + 1,x0,x3 => if x3 < (x0.size : Int) then (if 0 ≤ x3 then ((zAY.f (bt x0 x3)).bind fun t240 => (if t240 = true then (zAB.l0 k x0 (wrap64 (x3 + 1))) else (some false))) else (none)) else ((zAv.f k x0).bind fun t241 => (if (x0.size : Int) ≥ 1 then (if (x0.size : Int) ≤ 20 then (if 0 < (x0.size : Int) then ((zAw.f (bt x0 0)).bind fun t242 => (if t242 = true then (some false) else (some (!t241)))) else (none)) else (some false)) else (some false)))
def zAB.f (k : Nat) (a0 : ByteArray) : Option (Bool):=zAB.l0 k a0 0
theorem zAB.calls (k : Nat) (a0 : ByteArray) (r : Bool) (w : World) (h : zAB.f k a0 = some r) :
  Calls Tryz.prog 127 #[.string a0] w fun e w' => e = .returned (.bool r) ∧ Below w.heap.size w w':=by
 have HB:=Aside0.mk (Below.refl w.heap.size w)
 have H : (zAB.l0 k a0 0) = some r:=h
 clear h
 have H':=Aside0.mk H
 clear H
 go_enter Tryz.func127,Tryz.ntmps127
 go_wp2
 go_loopg [3] k (fun kq v3 w' => ∃ (x3_1 : Int),v3 = .int .i64 x3_1 ∧ Aside0 (zAB.l0 kq a0 x3_1 = some r) ∧ Aside0 (kq ≤ k) ∧ Aside0 (Below w.heap.size w w'))
 case atStart => exact ⟨(0),(by first | rfl | (simp; done) | (simp [*]; done)),H',⟨Nat.le_refl _⟩,⟨by repeat (first | (with_reducible first | exact HB.out | apply zAa | apply zAf | apply zAi) | exact HB.out)⟩⟩
 case round =>
  clear H'
  try clear c1
  obtain ⟨x3_1,rfl,HA,HK1,HB⟩:=hrel
  cases gk with
  | zero => exact absurd HA.out (by simp [zAB.l0])
  | succ k1 =>
   have H:=HA.out
   clear HA
   simp only [zAB.l0] at H
   by_cases c2 : x3_1 < (a0.size : Int)
   ·rw [if_pos c2] at H
    have c2b0 : decide (x3_1 < (a0.size : Int)) = true:=decide_eq_true c2
    clear c2
    by_cases c3 : 0 ≤ x3_1
    ·rw [if_pos c3] at H
     have c3b0 : decide (0 ≤ x3_1) = true:=decide_eq_true c3
     clear c3
     replace H:=Option.bind_eq_some_iff.mp H
     obtain ⟨t240,A50,H⟩:=H
     replace H : (if t240 = true then (zAB.l0 k1 a0 (wrap64 (x3_1 + 1))) else (some false)) = some r:=H
     have A5:=Aside0.mk A50
     clear A50
     by_cases c6 : t240 = true
     ·subst c6
      have H1 : (zAB.l0 k1 a0 (wrap64 (x3_1 + 1))) = some r:=by rw [if_pos rfl] at H; exact H
      clear H
      have H:=H1
      clear H1
      have H':=Aside0.mk H
      clear H
      have p4 : 0 ≤ (x3_1 : Int):=of_decide_eq_true (by first | (with_reducible assumption) | assumption)
      have q4 : x3_1 < (a0.size : Int):=of_decide_eq_true (by first | (with_reducible assumption) | assumption)
      have hx4:=bt_at a0 x3_1
      replace p4:=eq_true p4
      replace q4:=eq_true q4
      go_wp2_with (first | ((with_reducible refine zAF (f:=138) rfl ?_); refine goesL_ (some 14) rfl rfl Tryz.func138 (by kernel_rfl) rfl #[.int .u8 (bt a0 x3_1)] rfl (by (try simp only [List.map_toArray,List.map_cons,List.map_nil]); first | done | rfl | (simp only [List.length_drop,List.length_take]; rfl)) ?_; (with_reducible refine (zAY.calls (bt a0 x3_1) true _ A5.out).mono ?_); rintro e w' ⟨rfl,⟨nd,rfl⟩⟩; refine ⟨_,rfl,?_⟩))
      go_roundg k1
      case measure => have:=HK1.out; omega
      case rel => exact ⟨(wrap64 (x3_1 + 1)),(by first | rfl | (simp; done) | (simp [*]; done)),H',⟨by have:=HK1.out; omega⟩,⟨by repeat (first | (with_reducible first | exact HB.out | apply zAa | apply zAf | apply zAi) | exact HB.out)⟩⟩
     ·replace c6:=Bool.eq_false_iff.mpr c6
      subst c6
      have H1 : (some false) = some r:=by rw [if_neg (show ¬ (false = true) by decide)] at H; exact H
      clear H
      have H:=H1
      clear H1
      obtain rfl:=Option.some.inj H
      have p4 : 0 ≤ (x3_1 : Int):=of_decide_eq_true (by first | (with_reducible assumption) | assumption)
      have q4 : x3_1 < (a0.size : Int):=of_decide_eq_true (by first | (with_reducible assumption) | assumption)
      have hx4:=bt_at a0 x3_1
      replace p4:=eq_true p4
      replace q4:=eq_true q4
      go_wp2_with (first | ((with_reducible refine zAF (f:=138) rfl ?_); refine goesL_ (some 14) rfl rfl Tryz.func138 (by kernel_rfl) rfl #[.int .u8 (bt a0 x3_1)] rfl (by (try simp only [List.map_toArray,List.map_cons,List.map_nil]); first | done | rfl | (simp only [List.length_drop,List.length_take]; rfl)) ?_; (with_reducible refine (zAY.calls (bt a0 x3_1) false _ A5.out).mono ?_); rintro e w' ⟨rfl,⟨nd,rfl⟩⟩; refine ⟨_,rfl,?_⟩))
      go_ret
      exact ⟨by first | rfl | (simp [zAs,zAt] <;> rfl) | (simp [*,zAs,zAt] <;> rfl),by repeat (first | (with_reducible first | exact HB.out | apply zAa | apply zAf | apply zAi) | exact HB.out)⟩
    ·rw [if_neg c3] at H
     exact absurd H (by simp)
   ·rw [if_neg c2] at H
    have c2b0 : decide (x3_1 < (a0.size : Int)) = false:=decide_eq_false c2
    clear c2
    replace H:=Option.bind_eq_some_iff.mp H
    obtain ⟨t241,A70,H⟩:=H
    replace H : (if (a0.size : Int) ≥ 1 then (if (a0.size : Int) ≤ 20 then (if 0 < (a0.size : Int) then ((zAw.f (bt a0 0)).bind fun t242 => (if t242 = true then (some false) else (some (!t241)))) else (none)) else (some false)) else (some false)) = some r:=H
    have A7:=Aside0.mk A70
    clear A70
    by_cases c8 : (a0.size : Int) ≥ 1
    ·rw [if_pos c8] at H
     have c8b0 : decide (1 ≤ (a0.size : Int)) = true:=decide_eq_true c8
     have c8b1 : decide (1 ≤ a0.size) = true:=decide_eq_true (by omega)
     clear c8
     by_cases c9 : (a0.size : Int) ≤ 20
     ·rw [if_pos c9] at H
      have c9b0 : decide ((a0.size : Int) ≤ 20) = true:=decide_eq_true c9
      have c9b1 : decide (a0.size ≤ 20) = true:=decide_eq_true (by omega)
      clear c9
      by_cases c10 : 0 < (a0.size : Int)
      ·rw [if_pos c10] at H
       have c10b0 : decide (0 < (a0.size : Int)) = true:=decide_eq_true c10
       have c10b1 : decide (0 < a0.size) = true:=decide_eq_true (by omega)
       clear c10
       replace H:=Option.bind_eq_some_iff.mp H
       obtain ⟨t242,A120,H⟩:=H
       replace H : (if t242 = true then (some false) else (some (!t241))) = some r:=H
       have A12:=Aside0.mk A120
       clear A120
       by_cases c13 : t242 = true
       ·subst c13
        have H1 : (some false) = some r:=by rw [if_pos rfl] at H; exact H
        clear H
        have H:=H1
        clear H1
        obtain rfl:=Option.some.inj H
        go_wp2_with (first | ((with_reducible refine zAF (f:=139) rfl ?_); refine goesL_ (some 17) rfl rfl Tryz.func139 (by kernel_rfl) rfl #[.string a0] rfl (by (try simp only [List.map_toArray,List.map_cons,List.map_nil]); first | done | rfl | (simp only [List.length_drop,List.length_take]; rfl)) ?_; (with_reducible refine (zAv.calls k1 a0 t241 _ A7.out).mono ?_); rintro e w14 ⟨rfl,hb⟩; refine ⟨_,rfl,?_⟩; have n0_:=Aside0.mk (zAd (by repeat (first | (with_reducible first | exact HB.out | apply zAa | apply zAf | apply zAi) | exact HB.out)) hb); clear HB; have HB:=n0_; clear n0_; (try clear hb); (try clear hb2); (try clear hk); (try clear hi); have p11 : 0 ≤ (0 : Int):=(by omega); have q11 : 0 < a0.size:=(by have : (0 : Int) < (a0.size : Int):=of_decide_eq_true (by first | (with_reducible assumption) | assumption); omega); have hx11 : ∀ h : 0 < a0.size,((a0[0]'h).toNat : Int) = bt a0 0:=bt_at a0 0; clear p11; have qi11 : (0 < (a0.size : Int)) = True:=eq_true (of_decide_eq_true (by first | (with_reducible assumption) | assumption)); replace q11:=eq_true q11) | (go_at_call 140; (with_reducible refine (zAw.calls (bt a0 0) true _ A12.out).mono ?_); rintro e w' ⟨rfl,⟨nd,rfl⟩⟩))
        go_ret
        exact ⟨by first | rfl | (simp [zAs,zAt] <;> rfl) | (simp [*,zAs,zAt] <;> rfl),by repeat (first | (with_reducible first | exact HB.out | apply zAa | apply zAf | apply zAi) | exact HB.out)⟩
       ·replace c13:=Bool.eq_false_iff.mpr c13
        subst c13
        have H1 : (some (!t241)) = some r:=by rw [if_neg (show ¬ (false = true) by decide)] at H; exact H
        clear H
        have H:=H1
        clear H1
        obtain rfl:=Option.some.inj H
        go_wp2_with (first | ((with_reducible refine zAF (f:=139) rfl ?_); refine goesL_ (some 17) rfl rfl Tryz.func139 (by kernel_rfl) rfl #[.string a0] rfl (by (try simp only [List.map_toArray,List.map_cons,List.map_nil]); first | done | rfl | (simp only [List.length_drop,List.length_take]; rfl)) ?_; (with_reducible refine (zAv.calls k1 a0 t241 _ A7.out).mono ?_); rintro e w15 ⟨rfl,hb⟩; refine ⟨_,rfl,?_⟩; have n0_:=Aside0.mk (zAd (by repeat (first | (with_reducible first | exact HB.out | apply zAa | apply zAf | apply zAi) | exact HB.out)) hb); clear HB; have HB:=n0_; clear n0_; (try clear hb); (try clear hb2); (try clear hk); (try clear hi); have p11 : 0 ≤ (0 : Int):=(by omega); have q11 : 0 < a0.size:=(by have : (0 : Int) < (a0.size : Int):=of_decide_eq_true (by first | (with_reducible assumption) | assumption); omega); have hx11 : ∀ h : 0 < a0.size,((a0[0]'h).toNat : Int) = bt a0 0:=bt_at a0 0; clear p11; have qi11 : (0 < (a0.size : Int)) = True:=eq_true (of_decide_eq_true (by first | (with_reducible assumption) | assumption)); replace q11:=eq_true q11) | (go_at_call 140; (with_reducible refine (zAw.calls (bt a0 0) false _ A12.out).mono ?_); rintro e w' ⟨rfl,⟨nd,rfl⟩⟩))
        go_ret
        exact ⟨by first | rfl | (simp [zAs,zAt] <;> rfl) | (simp [*,zAs,zAt] <;> rfl),by repeat (first | (with_reducible first | exact HB.out | apply zAa | apply zAf | apply zAi) | exact HB.out)⟩
      ·rw [if_neg c10] at H
       exact absurd H (by simp)
     ·rw [if_neg c9] at H
      have c9b0 : decide ((a0.size : Int) ≤ 20) = false:=decide_eq_false c9
      have c9b1 : decide (a0.size ≤ 20) = false:=decide_eq_false (by omega)
      clear c9
      obtain rfl:=Option.some.inj H
      go_wp2_with (first | ((with_reducible refine zAF (f:=139) rfl ?_); refine goesL_ (some 17) rfl rfl Tryz.func139 (by kernel_rfl) rfl #[.string a0] rfl (by (try simp only [List.map_toArray,List.map_cons,List.map_nil]); first | done | rfl | (simp only [List.length_drop,List.length_take]; rfl)) ?_; (with_reducible refine (zAv.calls k1 a0 t241 _ A7.out).mono ?_); rintro e w16 ⟨rfl,hb⟩; refine ⟨_,rfl,?_⟩; have n0_:=Aside0.mk (zAd (by repeat (first | (with_reducible first | exact HB.out | apply zAa | apply zAf | apply zAi) | exact HB.out)) hb); clear HB; have HB:=n0_; clear n0_; (try clear hb); (try clear hb2); (try clear hk); (try clear hi)))
      go_ret
      exact ⟨by first | rfl | (simp [zAs,zAt] <;> rfl) | (simp [*,zAs,zAt] <;> rfl),by repeat (first | (with_reducible first | exact HB.out | apply zAa | apply zAf | apply zAi) | exact HB.out)⟩
    ·rw [if_neg c8] at H
     have c8b0 : decide (1 ≤ (a0.size : Int)) = false:=decide_eq_false c8
     have c8b1 : decide (1 ≤ a0.size) = false:=decide_eq_false (by omega)
     clear c8
     obtain rfl:=Option.some.inj H
     go_wp2_with (first | ((with_reducible refine zAF (f:=139) rfl ?_); refine goesL_ (some 17) rfl rfl Tryz.func139 (by kernel_rfl) rfl #[.string a0] rfl (by (try simp only [List.map_toArray,List.map_cons,List.map_nil]); first | done | rfl | (simp only [List.length_drop,List.length_take]; rfl)) ?_; (with_reducible refine (zAv.calls k1 a0 t241 _ A7.out).mono ?_); rintro e w17 ⟨rfl,hb⟩; refine ⟨_,rfl,?_⟩; have n0_:=Aside0.mk (zAd (by repeat (first | (with_reducible first | exact HB.out | apply zAa | apply zAf | apply zAi) | exact HB.out)) hb); clear HB; have HB:=n0_; clear n0_; (try clear hb); (try clear hb2); (try clear hk); (try clear hi)))
     go_ret
     exact ⟨by first | rfl | (simp [zAs,zAt] <;> rfl) | (simp [*,zAs,zAt] <;> rfl),by repeat (first | (with_reducible first | exact HB.out | apply zAa | apply zAf | apply zAi) | exact HB.out)⟩
end Go.Proofs.YtkhlfdcjgooogaaGreat.P
