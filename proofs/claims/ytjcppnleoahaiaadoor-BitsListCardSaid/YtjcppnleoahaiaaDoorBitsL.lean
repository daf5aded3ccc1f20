/- bits.Set: List. -/
import Derived.Test.YtjcppnleoahaiaaDoorBitsK
import Derived.Test.YtjcppnleoahaiaaDoorBitsJ
namespace Go.Proofs.YtjcppnleoahaiaaDoor.P
open Go.RowKit Go.Proofs.YtjcppnleoahaiaaDoorW.PrintWords Go.Proofs.YtjcppnleoahaiaaDoorW.PrintLast Go.Proofs.YtjcppnleoahaiaaDoorW.PrintMore
set_option linter.unusedVariables false
set_option linter.unusedSimpArgs false
theorem next_call (m : Nat → Bool) (n : Int) (w : World) (hn : n ≤ 9223372036854775807) (hT : TabAt 0 Lib.deBruijn64tab w) (h0 : 0 < w.heap.size) :
    Calls Tryd.prog 19 #[.agg (cells m), .int .i64 n] w fun e w' => e = .returned (.int .i64 (nextF m n)) ∧ Below w.heap.size w w' := by
  by_cases h : n < 0
  · exact next_neg m n h w hT h0
  · obtain ⟨k, rfl⟩ : ∃ k : Nat, n = k := ⟨n.toNat, by omega⟩
    exact next_nat m k hn w hT h0
/-- What stands at a round's head. -/
def ListRel (w : World) (cs : Array Value) (m : Nat → Bool) (l n : Value) (wr : World) : Prop := ∃ v : Nat, v ≤ 4096 ∧ n = .int .i64 (nextF m v) ∧ Kd.R (Kd.int .i64) 3 wr w.heap.size (fun _ => True) l (listTo m v) ∧ wr.heap[w.heap.size]? = some (.cells cs 27 (0, 0)) ∧ Below w.heap.size w wr
set_option maxRecDepth 100000 in
set_option maxHeartbeats 4000000 in
theorem list_any (m : Nat → Bool) (w : World) (hT : TabAt 0 Lib.deBruijn64tab w) (h0 : 0 < w.heap.size) :
    Calls Tryd.prog 35 #[.agg (cells m)] w fun e w' => ∃ v_, e = .returned v_ ∧ Kd.R (Kd.int .i64) 3 w' w.heap.size (fun _ => True) v_ (listF m) ∧ Below w.heap.size w w' := by
  have hsz := cells_size m
  have hcall := next_call m
  obtain ⟨cs, hcs⟩ : ∃ cs, cs = cells m := ⟨_, rfl⟩
  rw [← hcs] at hsz hcall ⊢
  have HCALL := Lib.hid hcall
  have HT := Lib.hid hT
  have HZ := Lib.hid h0
  have hi : (Tryd.prog.info? 27).map (·.size) = some cs.size := by rw [hsz]; kernel_rfl
  clear hcs hcall hT h0
  go_enter Tryd.func35, Tryd.ntmps35
  go_wp2_with (((with_reducible refine gate_dst (N := 5) rfl ?_); refine Stp.out ?_))
  unfold Stp
  obtain ⟨w2, hw2⟩ : ∃ W_, W_ = w.alloc (.cells cs 27) := ⟨_, rfl⟩
  rw [← hw2]
  have HK1 : Hid (w2.heap[w.heap.size]? = some (.cells cs 27 (0, 0))) := Lib.hid (by rw [hw2]; exact heap_alloc_new w _)
  have HB : Hid (Below w.heap.size w w2) := Lib.hid (by rw [hw2]; exact below_alloc (Below.refl _ _) _)
  clear hw2
  refine wpList_load_row rfl 27 (.tmp 1) rfl w.heap.size rfl 27 cs (0, 0) _ HK1.out Tryd.underlying27 rfl hi ?_
  go_wp2_with fail
  refine (HCALL.out 0 _ (by omega) (tab_below HT.out HB.out HZ.out) (Nat.lt_of_lt_of_le HZ.out HB.out.size)).mono ?_
  rintro e w3 ⟨rfl, hb3⟩
  have HK3 := Lib.hid (blk_below HK1.out hb3)
  have HB3 := Lib.hid (below_step HB.out hb3)
  clear hb3 HK1 HB
  go_wp2_with fail
  go_loopw [3, 4] (fun l n wr => ListRel w cs m l n wr) (fun _ n _ => if intOf n < 0 then 0 else 4097 - (intOf n).toNat)
  case atStart => exact ⟨0, by omega, rfl, Kd.R_nil _ _ _ _ _, HK3.out, HB3.out⟩
  case round =>
    obtain ⟨v, hv, rfl, hR, hk, hb⟩ := hrel
    rcases next_cases m v with ⟨he, hend⟩ | ⟨j, he, hj, hvj, hmj, hno⟩
    · rw [he]
      have hl := listTo_end m v hv (fun i h1 h2 => hend i (by omega) h2)
      rw [hl] at hR
      have HR := Lib.hid hR
      have HBb := Lib.hid hb
      clear hR hb hk he hend hl
      go_wp2_with fail
      go_ret
      exact ⟨_, rfl, HR.out, HBb.out⟩
    · rw [he]
      have hl := listTo_next m v j (by omega) hmj (fun i h1 h2 => hno i (by omega) h2)
      have hlen := listTo_len m v
      obtain ⟨L, hL⟩ : ∃ L, L = listTo m v := ⟨_, rfl⟩
      rw [← hL] at hl hR hlen
      have HL := Lib.hid hl
      have HR := Lib.hid hR
      have HBb := Lib.hid hb
      have HK := Lib.hid hk
      clear hR hb hk he hno hl hL hmj
      go_wp2_with (((with_reducible refine gate_builtin (b := .append) (xs := #[.tmp 13, .tmp 15]) rfl ?_); at_builtin; refine Stp.out ?_))
      unfold Stp
      refine Kd.R_append (Kd.int .i64) (w0 := w) w.heap.size rfl (.tmp 13) (.tmp 15) 22 3 (.int .i64 0) 8 rfl Tryd.underlying22 info3 rfl (by decide) (by omega) u3 L (j : Int) [.int .i64 j] (fun _ => True) (fun _ => False) rfl rfl rfl (fun _ hk => hk.elim) (fun _ _ => trivial) HR.out HBb.out HBb.out.size (by omega) ?_
      intro v1 w4 hR4 hb4 hg4 hat4
      rw [HL.out] at hR4
      have HK4 := Lib.hid (blk_grown HK.out hg4 (Kd.R_ne HR.out HK.out (by decide)))
      have HR4 := Lib.hid hR4
      have HB4 := Lib.hid hb4
      clear hR4 hb4 hg4 hat4
      go_wp2_with (((with_reducible refine gate_dst (N := 9) rfl ?_); refine Stp.out ?_))
      unfold Stp
      refine wpList_load_row rfl 27 (.tmp 1) rfl w.heap.size rfl 27 cs (0, 0) _ HK4.out Tryd.underlying27 rfl hi ?_
      go_wp2_with fail
      refine (HCALL.out ((j : Int) + 1) _ (by omega) (tab_below HT.out HB4.out HZ.out) (Nat.lt_of_lt_of_le HZ.out HB4.out.size)).mono ?_
      rintro e w5 ⟨rfl, hb5⟩
      have HK5 := Lib.hid (blk_below HK4.out hb5)
      have HB5 := Lib.hid (below_step HB4.out hb5)
      have HR5 := Lib.hid (Kd.R_below HR4.out hb5)
      clear hb5
      go_wp2_with fail
      go_roundw
      case rel => exact ⟨j + 1, by omega, by norm_cast, HR5.out, HK5.out, HB5.out⟩
      case measure =>
        have e0 : ∀ x : Int, intOf (.int .i64 x) = x := fun _ => rfl
        simp only [e0]
        rw [if_neg (show ¬ (j : Int) < 0 by omega)]
        rcases next_cases m ((j : Int) + 1) with ⟨he, _⟩ | ⟨j2, he, hj2, hlt2, _⟩
        · rw [he, if_pos (by omega)]; omega
        · rw [he, if_neg (by omega)]; omega
end Go.Proofs.YtjcppnleoahaiaaDoor.P
