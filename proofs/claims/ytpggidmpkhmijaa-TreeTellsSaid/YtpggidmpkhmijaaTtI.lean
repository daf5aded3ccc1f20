import Derived.Test.YtpggidmpkhmijaaTtG
import Derived.Shelf.Vars
import Derived.HandedShaped
set_option linter.unusedVariables false
set_option linter.unusedSimpArgs false
namespace Go.Proofs.Ytpggidmpkhmijaa.P
open Go.RowKit Go.Proofs.YtpggidmpkhmijaaW.PrintWords Go.Proofs.YtpggidmpkhmijaaW.PrintLast Go.Proofs.YtpggidmpkhmijaaW.PrintMore
theorem j0_ev (l : List S24) (root p : Int) (sb rb : Bool) (d : Int) (ps : List Int) (q : List S24 × Int) (h1 : zAJ.f l root = some sb) (h2 : Ev (fun k => zAq.f k l root) sb) (h3 : Ev (fun k => zBg.f k l root) rb) (h4 : Ev (fun k => zAW.f k l root) rb)
  (h5 : Ev (fun k => zAI.f k l root) d) (h6 : Ev (fun k => zAv.f k l root) d) (h7 : Ev (fun k => zAF.f k l root) ps) (h8 : Ev (fun k => zAy.f k l root) ps) (hp : ps.length < 1000000)
  (h9 : Ev (fun k => zAK.f k l root p) q) (h10 : Ev (fun k => zAx.f k l root p) q) (hq : q.1.length < 1000000) (hq2 : ∀ x ∈ q.1,x.f4.length < 1000000) : Ev (fun k => zAl.j0 k p true false l root) true:=by
 have E1 : Ev (fun k => zAl.j1 k p true l root) true:=by
  refine Ev.step (f:=fun k => (zAF.f k l root).bind fun t306 => ((zAy.f k l root).bind fun t309 => ((zAB.f k t306 t309).bind fun t312 => (if t312 = true then ((zAK.f k l root p).bind fun bt313 => ((zAx.f k l root p).bind fun bt317 => ((zAC.f k bt313.1 bt313.2 bt317.1 bt317.2).bind fun t321 => (some t321)))) else (some false))))) (fun k => by simp only [zAl.j1]; rw [if_pos trivial]) ?_
  refine Ev.bind h7 (Ev.bind h8 (Ev.bind (sameInts_ev ps hp) (ev_iff rfl ?_)))
  exact Ev.bind h9 (Ev.bind h10 (Ev.bind (like_ev q.1 q.2 hq hq2) (Ev.now _)))
 refine Ev.step (f:=fun k => (zAJ.f l root).bind fun t300 => ((zAq.f k l root).bind fun t301 => (if (t300 == t301) = true then ((zBg.f k l root).bind fun t302 => ((zAW.f k l root).bind fun t303 => (if (t302 == t303) = true then ((zAI.f k l root).bind fun t304 => ((zAv.f k l root).bind fun t305 => (zAl.j1 k p (t304 == t305) l root))) else (zAl.j1 k p false l root)))) else (zAl.j1 k p false l root)))) (fun k => by simp only [zAl.j0]; rw [if_neg (by simp)]) ?_
 refine Ev.bind ⟨0,fun _ _ => h1⟩ (Ev.bind h2 (ev_iff (by simp) (Ev.bind h3 (Ev.bind h4 (ev_iff (by simp) (Ev.bind h5 (Ev.bind h6 ?_)))))))
 rw [show (d == d) = true from by simp]
 exact E1
theorem TreeTells_calls (A : Option Addr) (c : Nat) (l : List S24) (root p : Int) (w : World) (hE : Env w) (hr : Kd.C k24 w A l.length l) (hc : l.length ≤ c) :
  Calls Try.prog 7 #[.agg #[.slice A l.length c,.int .i64 root],.int .i64 p] w fun e w' => e = .returned (.bool true) ∧ Below w.heap.size w w':=by
 obtain ⟨K0,h0⟩:=(small_ev [⟨l,root⟩]).rounds
 cases hb : smallS [⟨l,root⟩] with
 | false =>
  rw [hb] at h0
  exact TreeTells_out A c l root p K0 w hr hc h0
 | true =>
  rw [hb] at h0
  obtain ⟨hl,hk⟩:=(smallS_ok hb).2 ⟨l,root⟩ (by simp)
  have hk1 : ∀ x ∈ l,x.f4.length < 1000000:=fun x hx => by have:=hk x hx; omega
  obtain ⟨q,g1,g2,g3,g4⟩:=sub_both l (by simp only at hl; omega) (fun x hx => by have:=hk x hx; omega) root p
  have hq2 : ∀ x ∈ q.1,x.f4.length < 1000000:=fun x hx => by have:=g2 x hx; omega
  rcases zBz l root with hS | ⟨T,hT,hT2,hroot⟩
  ·have hR : Ev (fun k => zBg.f k l root) false:=Ev.congr (f:=fun _ => some false) (fun k => by unfold zBg.f; rw [hS]; simp) (Ev.now _)
   have hP : Ev (fun k => zAF.f k l root) []:=Ev.congr (f:=fun _ => some []) (fun k => parents_no l root k hS) (Ev.now _)
   obtain ⟨K,hK⟩:=(j0_ev l root p false false 0 [] q hS (zBp l hk1 root false hS) hR (rright_no l hk1 root hS) (depth_no l root hS) (rdepth_no l hk1 root hS) hP (rpar_no l hk1 root hS) (by simp) g3 g4 (by omega) hq2).rounds
   exact TreeTells_in K K0 A c l root p true w hE (fun h => by rw [hS] at h; cases h) hr hc h0 hK
  ·have hfl:=RT.flat_len 0 T
   have hp:=RT.size_pos T
   have hF : Fit l:=by
    rw [hT]
    refine fit_flat T hT2 fun x hx => ?_
    have:=hk x (by rw [hT]; exact hx)
    omega
   have hS : zAJ.f l root = some true:=by rw [hT,hroot]; exact zBq T hT2
   have hd:=depth_ev T hT2
   have hd2:=rdepth_ev T hT2
   have hr2:=rright_yes T hT2 (by rw [← hT]; exact hF)
   obtain ⟨ps,p1,p2,p3⟩:=par_both T hT2
   rw [← hT,← hroot] at hd hd2 hr2 p2 p3
   have hR : Ev (fun k => zBg.f k l root) (rightB l root (T.depth : Int)):=by
    refine Ev.congr (f:=fun k => (zAI.f k l root).bind fun d => some (rightB l root d)) (fun k => by unfold zBg.f; rw [hS]; simp) (Ev.bind hd (Ev.now _))
   obtain ⟨K,hK⟩:=(j0_ev l root p true _ _ ps q hS (zBp l hk1 root true hS) hR hr2 hd hd2 p2 p3 (by omega) g3 g4 (by omega) hq2).rounds
   have hll : l.length = T.size:=by rw [hT,hfl]
   exact TreeTells_in K K0 A c l root p true w hE (fun _ => ⟨hF,by omega,by omega⟩) hr hc h0 hK
open Go.RowKit
theorem env_shaped {W : World} (hsh : W.ShapedOpen Try.prog) : Env W:=by
 have hm:=cell_of_shapedOpen_int (g:=0) (t:=3) (zero:=#[.int .i64 0]) (k:=.i64) hsh (of_decide_eq_true (by kernel_rfl)) (by kernel_rfl) rfl (by kernel_rfl) (by kernel_rfl) Try.underlying3
 obtain ⟨m,h⟩:=hm
 exact ⟨⟨m,h⟩,World.block_lt_of_cell? W _ h⟩
end Go.Proofs.Ytpggidmpkhmijaa.P
