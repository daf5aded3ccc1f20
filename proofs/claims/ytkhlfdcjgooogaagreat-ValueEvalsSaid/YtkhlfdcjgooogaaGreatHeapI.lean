import Derived.Test.YtkhlfdcjgooogaaGreatVaB
import Derived.Test.YtkhlfdcjgooogaaGreatPf15
import Derived.Test.YtkhlfdcjgooogaaGreatVbB
set_option maxRecDepth 100000
set_option maxHeartbeats 16000000
set_option linter.unusedVariables false
set_option linter.unusedSimpArgs false
set_option linter.unusedSectionVars false
namespace Go.Proofs.YtkhlfdcjgooogaaGreat.P
open Go.RowKit Go.Proofs.YtkhlfdcjgooogaaGreatW.PrintWords Go.Proofs.YtkhlfdcjgooogaaGreatW.PrintLast Go.Proofs.YtkhlfdcjgooogaaGreatW.PrintMore
def unF (s : ByteArray) (k n : Int) : Int × Int × Bool:=unG s.toList k n
def binF (s : ByteArray) (k n k' n' : Int) : Int × Int × Int × Bool:=binG s.toList k n k' n'
def opF (ns : List S66) (ol : List Int) (nl : List NV) (L : List (List Int)) (i : Int) (vs : List (Int × Int)) : Int × Int × Int :=
 if kdOf ns i = 20 then (1,nOf ns i,0)
 else if kdOf ns i = 21 then (2,nOf ns i,0)
 else if kdOf ns i = 22 then ((nameF nl (nmOf ns i)).1,(nameF nl (nmOf ns i)).2,0)
 else if kdOf ns i = 23 then (getK L (nameF nl (nmOf ns i)).1 (nameF nl (nmOf ns i)).2 (vs.getD 0 (0,0)).1 (vs.getD 0 (0,0)).2,getN L (nameF nl (nmOf ns i)).1 (nameF nl (nmOf ns i)).2 (vs.getD 0 (0,0)).1 (vs.getD 0 (0,0)).2,wrongF L (nameF nl (nmOf ns i)).1 (nameF nl (nmOf ns i)).2 (vs.getD 0 (0,0)).1 (vs.getD 0 (0,0)).2)
 else if kdOf ns i = 24 then (1,lenF L (nameF nl (nmOf ns i)).1 (nameF nl (nmOf ns i)).2,0)
 else if kdOf ns i = 25 then (4,procF ns (nmOf ns i) + 1,0)
 else if kdOf ns i = 26 then (if (unF (rd_T66 ns i).f3 (vs.getD 0 (0,0)).1 (vs.getD 0 (0,0)).2).2.2 = true then ((unF (rd_T66 ns i).f3 (vs.getD 0 (0,0)).1 (vs.getD 0 (0,0)).2).1,(unF (rd_T66 ns i).f3 (vs.getD 0 (0,0)).1 (vs.getD 0 (0,0)).2).2.1,0) else (exprF ns ol i,0,0))
 else (if (binF (rd_T66 ns i).f3 (vs.getD 0 (0,0)).1 (vs.getD 0 (0,0)).2 (vs.getD 1 (0,0)).1 (vs.getD 1 (0,0)).2).2.2.2 = true then ((binF (rd_T66 ns i).f3 (vs.getD 0 (0,0)).1 (vs.getD 0 (0,0)).2 (vs.getD 1 (0,0)).1 (vs.getD 1 (0,0)).2).1,(binF (rd_T66 ns i).f3 (vs.getD 0 (0,0)).1 (vs.getD 0 (0,0)).2 (vs.getD 1 (0,0)).1 (vs.getD 1 (0,0)).2).2.1,(binF (rd_T66 ns i).f3 (vs.getD 0 (0,0)).1 (vs.getD 0 (0,0)).2 (vs.getD 1 (0,0)).1 (vs.getD 1 (0,0)).2).2.2.1) else (exprF ns ol i,0,0))
def kidsF (f : Int → Int × Int × Int) : List Int → List (Int × Int) → List (Int × Int) × Int
 | [],acc => (acc,0)
 | k :: ks,acc => if (f k).2.2 = 0 then kidsF f ks (acc ++ [((f k).1,(f k).2.1)]) else ([],(f k).2.2)
def evalF (ns : List S66) (ol : List Int) (nl : List NV) (L : List (List Int)) : Nat → Int → Int × Int × Int
 | 0,i => (0,0,0)
 | n + 1,i => if (kidsF (evalF ns ol nl L n) (rd_T66 ns i).f4 []).2 = 0 then opF ns ol nl L i (kidsF (evalF ns ol nl L n) (rd_T66 ns i).f4 []).1 else (0,0,(kidsF (evalF ns ol nl L n) (rd_T66 ns i).f4 []).2)
structure EvW (At : Option Addr) (ct : Nat) (ns : List S66) (An : Option Addr) (cn : Nat) (nl : List NV) (Bh : Nat) (ok : Nat → Prop) (L : List (List Int)) (w : World) : Prop where
 hC : Kd.C k66 w At ns.length ns
 hct : ns.length ≤ ct
 hN : Kd.C kNV w An nl.length nl
 hcn : nl.length ≤ cn
 hnl : nl.length ≤ 1000000
 hH : HA w Bh ok L
 hL : cellsOf L ≤ 262144
 hE : Env w
theorem EvW.below {At : Option Addr} {ct : Nat} {ns : List S66} {An : Option Addr} {cn : Nat} {nl : List NV} {Bh : Nat} {ok : Nat → Prop} {L : List (List Int)} {w w' : World} (h : EvW At ct ns An cn nl Bh ok L w) (hb : Below w.heap.size w w') : EvW At ct ns An cn nl Bh ok L w' :=
 ⟨Kd.C_below h.hC hb,h.hct,Kd.C_below h.hN hb,h.hcn,h.hnl,h.hH.below hb,h.hL,h.hE.below hb h.hE.six⟩
def pairC (vs : List (Int × Int)) : Array Value:=#[.int .i64 (vs.getD 0 (0,0)).1,.int .i64 (vs.getD 0 (0,0)).2,.int .i64 (vs.getD 1 (0,0)).1,.int .i64 (vs.getD 1 (0,0)).2]
theorem mnew {B : Nat} {ok : Nat → Prop} {L : List (List Int)} (n : Int) {w : World} (h : HR w B ok L) (hc : cellsOf L ≤ 262144) :
  Calls Tryz.prog 17 #[.pointer (some ⟨B,0,none⟩),.int .i64 n] w fun e w' => e = .returned (.tuple #[.agg #[.int .i64 (newK L n),.int .i64 (newN L n)],.int .i64 (newE L n),.bool (newR L n)]) ∧ HR w' B (ext ok w w') (newL L n) ∧ Chg ok w w':=by
 obtain ⟨hb,v,gs,h1,h2⟩:=h
 unfold newK newN newE newR newL
 by_cases c1 : n < 0 ∨ 65536 < n
 ·simp only [if_pos c1]
  refine (rnew_size B n w c1).mono fun e w' hh => ?_
  obtain ⟨he,hw⟩:=hh
  exact ⟨he,HR.mono (HR.below ⟨hb,v,gs,h1,h2⟩ hw) (fun k hk => .inl hk),Chg.of hw⟩
 ·simp only [if_neg c1]
  by_cases c2 : 262144 < cellsOf L + n + 1
  ·simp only [if_pos c2]
   refine (rnew_full n h1 h2 (by omega) (by omega) hc c2).mono fun e w' hh => ?_
   obtain ⟨he,hB,hw⟩:=hh
   have hn:=h2.ne h1 (by decide) (by decide)
   have h2' : Arrs w' ok v gs L:=h2.step' (fun k hk ho => hw.block k hk (fun e => by subst e; rcases ho with ho | ho; exact hn.1 ho; exact hn.2 ho))
   exact ⟨he,HR.mono ⟨hb,v,gs,hB,h2'⟩ (fun k hk => .inl hk),hw.mono (fun x _ hx => hx ▸ hb)⟩
  ·simp only [if_neg c2]
   refine (rnew_is B v gs ok L n w h1 h2 hb (by omega) (by omega) (by omega)).mono fun e w' hh => ?_
   exact ⟨hh.1,hh.2.1,hh.2.2⟩
theorem wrong_any {B : Nat} {ok : Nat → Prop} {L : List (List Int)} (a n k i : Int) {w : World} (h : HR w B ok L) (hc : cellsOf L ≤ 262144) :
  (∀ w1,Below w.heap.size w w1 → Calls Tryz.prog 31 #[.pointer (some ⟨B,0,none⟩),.agg #[.int .i64 a,.int .i64 n],.agg #[.int .i64 k,.int .i64 i]] w1 fun e w' => e = .returned (.int .i64 (wrongF L a n k i)) ∧ Below w1.heap.size w1 w'):=by
 obtain ⟨hl,hls⟩:=lens hc
 obtain ⟨hb,v,gs,h1,h2⟩:=h
 intro w1 hw
 rcases zBC L a n k i with ⟨hi,e⟩ | ⟨hi,hr,e⟩ | ⟨hi,hk,h0,hm,e⟩
 ·rw [e]
  exact wrong_missing a n k i (zAe h1 hw) (h2.step (fun k hk _ => hw.block k hk)) hl hi
 ·rw [e]
  obtain ⟨rfl,hn1,hn2⟩:=isB_iff.1 hi
  obtain ⟨g,c,d,q,rfl,hg,hgs,hcell,hrow⟩:=h2.one hn1 hn2
  by_cases hr' : k ≠ 1 ∨ i < 0
  ·exact wrong_range1 n k i (zAe h1 hw) hl hn1 hn2 hr'
  ·obtain rfl : k = 1:=by omega
   exact wrong_range2 n i (zAe h1 hw) hl hn1 hn2 (Nat.lt_of_lt_of_le hg hw.size) (zAb hw hcell) (by omega) true (decide_eq_true (by unfold arrAt at hr; omega))
 ·rw [e]
  obtain ⟨rfl,hn1,hn2⟩:=isB_iff.1 hi
  subst hk
  obtain ⟨g,c,d,q,rfl,hg,hgs,hcell,hrow⟩:=h2.one hn1 hn2
  exact wrong_range2 n i (zAe h1 hw) hl hn1 hn2 (Nat.lt_of_lt_of_le hg hw.size) (zAb hw hcell) h0 false (decide_eq_false (by unfold arrAt at hm; omega))
theorem mget {B : Nat} {ok : Nat → Prop} {L : List (List Int)} (a n k i : Int) {w : World} (h : HR w B ok L) (hc : cellsOf L ≤ 262144) :
  Calls Tryz.prog 18 #[.pointer (some ⟨B,0,none⟩),.agg #[.int .i64 a,.int .i64 n],.agg #[.int .i64 k,.int .i64 i]] w fun e w' => e = .returned (.tuple #[.agg #[.int .i64 (getK L a n k i),.int .i64 (getN L a n k i)],.int .i64 (wrongF L a n k i)]) ∧ Below w.heap.size w w':=by
 have hw:=wrong_any a n k i h hc
 obtain ⟨hl,hls⟩:=lens hc
 obtain ⟨hb,v,gs,h1,h2⟩:=h
 unfold getK getN
 rcases zBC L a n k i with ⟨hi,e⟩ | ⟨hi,hr,e⟩ | ⟨hi,hk,h0,hm,e⟩
 ·rw [e] at hw ⊢
  exact rget_err a n k i 3 (.inr rfl) hw
 ·rw [e] at hw ⊢
  exact rget_err a n k i 2 (.inl rfl) hw
 ·rw [e] at hw ⊢
  obtain ⟨rfl,hn1,hn2⟩:=isB_iff.1 hi
  subst hk
  obtain ⟨g,c,d,q,rfl,hg,hgs,hcell,hrow⟩:=h2.one hn1 hn2
  exact rget_is n i _ h1 hl hn1 hn2 hg hcell (hls n) h0 hm (hrow.cell i.toNat (by unfold arrAt at hm; omega)) hw
theorem mset {B : Nat} {ok : Nat → Prop} {L : List (List Int)} (a n k i s x : Int) {w : World} (h : HR w B ok L) (hc : cellsOf L ≤ 262144) :
  Calls Tryz.prog 19 #[.pointer (some ⟨B,0,none⟩),.agg #[.int .i64 a,.int .i64 n],.agg #[.int .i64 k,.int .i64 i],.agg #[.int .i64 s,.int .i64 x]] w fun e w' => e = .returned (.int .i64 (wrongF L a n k i)) ∧ HR w' B ok (setL L a n k i s x) ∧ Chg ok w w':=by
 have hw:=wrong_any a n k i h hc
 have H:=h
 obtain ⟨hl,hls⟩:=lens hc
 obtain ⟨hb,v,gs,h1,h2⟩:=h
 unfold setL
 rcases zBC L a n k i with ⟨hi,e⟩ | ⟨hi,hr,e⟩ | ⟨hi,hk,h0,hm,e⟩
 ·rw [e] at hw ⊢
  rw [if_neg (fun hh => absurd hh.1 (by decide))]
  refine (rset_err a n k i s x 3 (.inr rfl) hw).mono fun e w' hh => ?_
  exact ⟨hh.1,H.below hh.2,Chg.of hh.2⟩
 ·rw [e] at hw ⊢
  rw [if_neg (fun hh => absurd hh.1 (by decide))]
  refine (rset_err a n k i s x 2 (.inl rfl) hw).mono fun e w' hh => ?_
  exact ⟨hh.1,H.below hh.2,Chg.of hh.2⟩
 ·rw [e] at hw ⊢
  by_cases hs : s = 1
  ·subst hs
   rw [if_pos ⟨rfl,rfl⟩]
   obtain ⟨rfl,hn1,hn2⟩:=isB_iff.1 hi
   subst hk
   obtain ⟨g,c,d,q,rfl,hg,hgs,hcell,hrow⟩:=h2.one hn1 hn2
   have hi' : i.toNat < (L.getD (n - 1).toNat []).length:=by unfold arrAt at hm; omega
   refine (rset_is n i x _ h1 hl hn1 hn2 hg hcell (hls n) h0 hm hrow.lt (hrow.cell _ hi') (hrow.frozen _) hw).mono fun e w' hh => ?_
   obtain ⟨he,w1,hbel,rfl⟩:=hh
   have h2':=h2.step (W':=w1) (fun k hk _ => hbel.block k hk)
   have h1':=zAe h1 hbel
   have hn:=h2'.ne h1' (by decide) (by decide)
   obtain ⟨hjg,hd'⟩:=List.getElem?_eq_some_iff.1 hgs
   have hBd : B ≠ d:=fun e => hn.2 (List.mem_map.2 ⟨_,List.getElem_mem hjg,by rw [hd',e]⟩)
   refine ⟨he,⟨hb,_,gs,(Below.heap_setCell w1 _ _ B hBd).trans h1',h2'.set (by omega) hgs hi' x⟩,(Chg.of hbel).set _ _ (fun _ => hrow.ok)⟩
  ·rw [if_neg (fun hh => hs hh.2)]
   refine (rset_nop a n k i s x hs hw).mono fun e w' hh => ?_
   exact ⟨hh.1,H.below hh.2,Chg.of hh.2⟩
theorem mlen {B : Nat} {ok : Nat → Prop} {L : List (List Int)} (a n : Int) {w : World} (h : HR w B ok L) (hc : cellsOf L ≤ 262144) :
  Calls Tryz.prog 47 #[.pointer (some ⟨B,0,none⟩),.agg #[.int .i64 a,.int .i64 n]] w fun e w' => e = .returned (.int .i64 (lenF L a n)) ∧ Below w.heap.size w w':=by
 obtain ⟨hl,hls⟩:=lens hc
 obtain ⟨hb,v,gs,h1,h2⟩:=h
 unfold lenF
 by_cases hi : isB L a n = true
 ·rw [if_pos hi]
  obtain ⟨rfl,hn1,hn2⟩:=isB_iff.1 hi
  obtain ⟨g,c,d,q,rfl,hg,hgs,hcell,hrow⟩:=h2.one hn1 hn2
  exact rlen_yes n h1 hl hn1 hn2 hg hcell
 ·rw [if_neg hi]
  exact rlen_no a n h1 h2 hl (by simpa using hi)
theorem newL_le {L : List (List Int)} (n : Int) (hc : cellsOf L ≤ 262144) : cellsOf (newL L n) ≤ 262144:=by
 unfold newL
 split
 ·exact hc
 ·split
  ·exact hc
  ·rw [zCk,List.length_replicate]
   omega
theorem setL_le {L : List (List Int)} (a n k i s x : Int) (hc : cellsOf L ≤ 262144) : cellsOf (setL L a n k i s x) ≤ 262144:=by
 unfold setL
 split
 ·rw [zDb _ _ _ (by simp [arrAt])]
  exact hc
 ·exact hc
end Go.Proofs.YtkhlfdcjgooogaaGreat.P
