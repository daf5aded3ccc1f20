/- The tables of the library as the row lists them; how a list of numbers is read. -/
import Derived.Test.YtjcppnleoahaiaaDoorBitsR
import Derived.Test.YtjcppnleoahaiaaDoorOpen
import Derived.Test.YtjcppnleoahaiaaDoorRows
import Derived.Lib.LaidTab
import Derived.LaidMore
namespace Go.Proofs.YtjcppnleoahaiaaDoor.P
open Go.RowKit Go.ChangeShapes Go.WideShapes Go.ChangeAt Go.Deep Go.Proofs.YtjcppnleoahaiaaDoorW.PrintWords Go.Proofs.YtjcppnleoahaiaaDoor.Op
set_option linter.unusedVariables false
def W64 (a : Int) : Prop := (Lit.int .i64 a).wf = true
theorem cellsOf3 : Tryd.prog.cellsOf 3 = 1 := by kernel_rfl
theorem rd22 : Rd Tryd.prog 22 (Kd.slice 3 (Kd.int .i64)) (fun xs => xs.length ≤ maxLen ∧ ∀ a ∈ xs, W64 a) := Rd.slice Tryd.underlying22 cellsOf3 (Rd.int Tryd.underlying3)
theorem w64 {a : Int} (h : W64 a) : -9223372036854775808 ≤ a ∧ a ≤ 9223372036854775807 := by
  unfold W64 at h
  simp [Lit.wf, IntKind.min, IntKind.max, IntKind.signed, IntKind.bits] at h
  omega
theorem tab_of {P : Program} {W : World} {name : String} {k : IntKind} {zs : List Int} {t e : TypeId} {n : Nat} {cs : Array Value} {fuel : Nat} {p : List MemPlace} {held : Bool}
    (ht : P.underlying t = some (.array n e)) (he : P.underlying e = some (.int k)) (hce : P.cellsOf e = 1) (hct : P.cellsOf t = n)
    (hvar : W.var? P name = some cs) (hd : DataW.trod (fun _ => ()) P W 0 (fun _ => true) held fuel t cs.toList = some (Lib.tabData k zs, p)) : Lib.TabIs P W name k zs := by
  unfold Lib.TabIs
  rw [hvar, ← Lib.cells_of_tab ht he hce hct hd]
theorem tabs_of_laid {W : World} (h : laidMet Tryd.prog [("math/bits.deBruijn32tab", Rows.laid_math_bits_deBruijn32tab), ("math/bits.deBruijn64tab", Rows.laid_math_bits_deBruijn64tab), ("internal/strconv.uint64pow10", Rows.laid_internal_strconv_uint64pow10)] W) : Tabs W := by
  obtain ⟨ps, ⟨g0, t0, cs0, f0, p0, q0, hg0, ht0, hv0, hd0, ⟨g1, t1, cs1, f1, p1, q1, hg1, ht1, hv1, hd1, ⟨g2, t2, cs2, f2, p2, q2, hg2, ht2, hv2, hd2, _, _⟩, _⟩, _⟩, _, _⟩ := h
  obtain rfl := Option.some.inj ((show Tryd.prog.globalNamed "math/bits.deBruijn32tab" = some 2 by kernel_rfl).symm.trans hg0)
  obtain rfl := Option.some.inj ((show Tryd.prog.globalNamed "math/bits.deBruijn64tab" = some 0 by kernel_rfl).symm.trans hg1)
  obtain rfl := Option.some.inj ((show Tryd.prog.globalNamed "internal/strconv.uint64pow10" = some 1 by kernel_rfl).symm.trans hg2)
  obtain rfl := Option.some.inj ((show (Tryd.prog.globals[2]?).map (·.type) = some 65 by kernel_rfl).symm.trans ht0)
  obtain rfl := Option.some.inj ((show (Tryd.prog.globals[0]?).map (·.type) = some 51 by kernel_rfl).symm.trans ht1)
  obtain rfl := Option.some.inj ((show (Tryd.prog.globals[1]?).map (·.type) = some 60 by kernel_rfl).symm.trans ht2)
  have t0 : Lib.TabIs Tryd.prog W "math/bits.deBruijn32tab" .u8 (Lib.deBruijn32tab.map fun (x : Nat) => (x : Int)) := tab_of (n := 32) Tryd.underlying65 Tryd.underlying5 (by kernel_rfl) (by kernel_rfl) hv0 hd0
  have t1 : Lib.TabIs Tryd.prog W "math/bits.deBruijn64tab" .u8 (Lib.deBruijn64tab.map fun (x : Nat) => (x : Int)) := tab_of (n := 64) Tryd.underlying51 Tryd.underlying5 (by kernel_rfl) (by kernel_rfl) hv1 hd1
  have t2 : Lib.TabIs Tryd.prog W "internal/strconv.uint64pow10" .u64 Lib.pow10Tab := tab_of (n := 20) Tryd.underlying60 Tryd.underlying24 (by kernel_rfl) (by kernel_rfl) hv2 hd2
  refine ⟨fun j hj => ?_, t2, ?_⟩
  · have := t1.cell (g := 0) (by kernel_rfl) j (by rw [List.length_map]; exact hj)
    rw [this]
    congr 2
    simp only [List.getD_eq_getElem?_getD, List.getElem?_map]
    cases Lib.deBruijn64tab[j]? <;> rfl
  · have := t0.cell (g := 2) (by kernel_rfl) 0 (by decide)
    exact World.block_lt_of_cell? W _ this
end Go.Proofs.YtjcppnleoahaiaaDoor.P
