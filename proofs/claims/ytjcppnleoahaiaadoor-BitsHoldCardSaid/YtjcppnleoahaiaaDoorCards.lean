/-
  DERIVED. GIVEN WITH THE SEED: THE CARDS: each row of YtjcppnleoahaiaaDoorRows.lean that lists a variable, with what it lists TIED to the program's text (the seventh form; the later family's looks); each row that meets fmt, with fmt's text TOLD by the authors' own Lean function (tested against real Go, not proved from fmt's source: count such statements apart). THE CARD IS WHAT COUNTS. Prove the row's statement (the work); the ties are given (YtjcppnleoahaiaaDoorTie.lean); close each card by the builder's one call (the guide's Derived/Test/ToyasCard.lean, 'card_holds'). Laid BY PROGRAM, IN A SANDBOX (cutbox-door.mjs). By AI agents, Wed Nov 11 2026. No macro, syntax, notation, axiom, sorry.
-/
import Derived.Test.YtjcppnleoahaiaaDoorRows
import GoSem.ClaimSeven
namespace Go.Proofs.YtjcppnleoahaiaaDoor
namespace Rows

/-- THE TIED CARD OF 'runnellaw1.BitsHold'. -/
def bitsHoldCard : Claim7 := { stood := { row := bitsHoldRow, standIns := [], harness := (true, "f7968457d16c450d090a9dd7e3c2f97800c469690eea06e5b50f8d4133818ff0"), looks := false }, kinds := [], alts := [], laidByText := true, laidKinds := [.data, .data, .data], laidTests := true, laidLooks := .later }
def BitsHoldCardSaid : Prop := Claim7.holds Tryd.pinned (.plain (OpenSpec.ofChange bitsHoldSpec)) bitsHoldCard

/-- THE TIED CARD OF 'runnellaw1.BitsCount'. -/
def bitsCountCard : Claim7 := { stood := { row := bitsCountRow, standIns := [], harness := (true, "f7968457d16c450d090a9dd7e3c2f97800c469690eea06e5b50f8d4133818ff0"), looks := false }, kinds := [], alts := [], laidByText := true, laidKinds := [.data, .data, .data], laidTests := true, laidLooks := .later }
def BitsCountCardSaid : Prop := Claim7.holds Tryd.pinned (.plain (OpenSpec.ofChange bitsCountSpec)) bitsCountCard

/-- THE TIED CARD OF 'runnellaw1.BitsJoin'. -/
def bitsJoinCard : Claim7 := { stood := { row := bitsJoinRow, standIns := [], harness := (true, "f7968457d16c450d090a9dd7e3c2f97800c469690eea06e5b50f8d4133818ff0"), looks := false }, kinds := [], alts := [], laidByText := true, laidKinds := [.data, .data, .data], laidTests := true, laidLooks := .later }
def BitsJoinCardSaid : Prop := Claim7.holds Tryd.pinned (.plain (OpenSpec.ofChange bitsJoinSpec)) bitsJoinCard

/-- THE TIED CARD OF 'runnellaw1.BitsLaws'. -/
def bitsLawsCard : Claim7 := { stood := { row := bitsLawsRow, standIns := [], harness := (true, "f7968457d16c450d090a9dd7e3c2f97800c469690eea06e5b50f8d4133818ff0"), looks := false }, kinds := [], alts := [], laidByText := true, laidKinds := [.data, .data, .data], laidTests := true, laidLooks := .later }
def BitsLawsCardSaid : Prop := Claim7.holds Tryd.pinned (.plain (OpenSpec.ofChange bitsLawsSpec)) bitsLawsCard

/-- THE TIED CARD OF 'runnellaw1.BitsList'. -/
def bitsListCard : Claim7 := { stood := { row := bitsListRow, standIns := [], harness := (true, "f7968457d16c450d090a9dd7e3c2f97800c469690eea06e5b50f8d4133818ff0"), looks := false }, kinds := [], alts := [], laidByText := true, laidKinds := [.data, .data, .data], laidTests := true, laidLooks := .later }
def BitsListCardSaid : Prop := Claim7.holds Tryd.pinned (.plain (OpenSpec.ofChange bitsListSpec)) bitsListCard

/-- THE TIED CARD OF 'runnellaw1.BitsMinus'. -/
def bitsMinusCard : Claim7 := { stood := { row := bitsMinusRow, standIns := [], harness := (true, "f7968457d16c450d090a9dd7e3c2f97800c469690eea06e5b50f8d4133818ff0"), looks := false }, kinds := [], alts := [], laidByText := true, laidKinds := [.data, .data, .data], laidTests := true, laidLooks := .later }
def BitsMinusCardSaid : Prop := Claim7.holds Tryd.pinned (.plain (OpenSpec.ofChange bitsMinusSpec)) bitsMinusCard

/-- THE SECOND FORM's CARD OF 'runnellaw1.BitsHold'. -/
def bitsHoldUptoCard : Claim7 := { stood := { row := bitsHoldUptoRow, standIns := [], harness := (true, "f7968457d16c450d090a9dd7e3c2f97800c469690eea06e5b50f8d4133818ff0"), looks := false }, kinds := [], alts := [], laidByText := true, laidKinds := [.data, .data, .data], laidTests := true, laidLooks := .later }
def BitsHoldUptoCardSaid : Prop := Claim7.holds Tryd.pinned (.plain (OpenSpec.upto bitsHoldSpec)) bitsHoldUptoCard

/-- THE SECOND FORM's CARD OF 'runnellaw1.BitsCount'. -/
def bitsCountUptoCard : Claim7 := { stood := { row := bitsCountUptoRow, standIns := [], harness := (true, "f7968457d16c450d090a9dd7e3c2f97800c469690eea06e5b50f8d4133818ff0"), looks := false }, kinds := [], alts := [], laidByText := true, laidKinds := [.data, .data, .data], laidTests := true, laidLooks := .later }
def BitsCountUptoCardSaid : Prop := Claim7.holds Tryd.pinned (.plain (OpenSpec.upto bitsCountSpec)) bitsCountUptoCard

/-- THE SECOND FORM's CARD OF 'runnellaw1.BitsJoin'. -/
def bitsJoinUptoCard : Claim7 := { stood := { row := bitsJoinUptoRow, standIns := [], harness := (true, "f7968457d16c450d090a9dd7e3c2f97800c469690eea06e5b50f8d4133818ff0"), looks := false }, kinds := [], alts := [], laidByText := true, laidKinds := [.data, .data, .data], laidTests := true, laidLooks := .later }
def BitsJoinUptoCardSaid : Prop := Claim7.holds Tryd.pinned (.plain (OpenSpec.upto bitsJoinSpec)) bitsJoinUptoCard

/-- THE SECOND FORM's CARD OF 'runnellaw1.BitsLaws'. -/
def bitsLawsUptoCard : Claim7 := { stood := { row := bitsLawsUptoRow, standIns := [], harness := (true, "f7968457d16c450d090a9dd7e3c2f97800c469690eea06e5b50f8d4133818ff0"), looks := false }, kinds := [], alts := [], laidByText := true, laidKinds := [.data, .data, .data], laidTests := true, laidLooks := .later }
def BitsLawsUptoCardSaid : Prop := Claim7.holds Tryd.pinned (.plain (OpenSpec.upto bitsLawsSpec)) bitsLawsUptoCard

/-- THE SECOND FORM's CARD OF 'runnellaw1.BitsList'. -/
def bitsListUptoCard : Claim7 := { stood := { row := bitsListUptoRow, standIns := [], harness := (true, "f7968457d16c450d090a9dd7e3c2f97800c469690eea06e5b50f8d4133818ff0"), looks := false }, kinds := [], alts := [], laidByText := true, laidKinds := [.data, .data, .data], laidTests := true, laidLooks := .later }
def BitsListUptoCardSaid : Prop := Claim7.holds Tryd.pinned (.plain (OpenSpec.upto bitsListSpec)) bitsListUptoCard

/-- THE SECOND FORM's CARD OF 'runnellaw1.BitsMinus'. -/
def bitsMinusUptoCard : Claim7 := { stood := { row := bitsMinusUptoRow, standIns := [], harness := (true, "f7968457d16c450d090a9dd7e3c2f97800c469690eea06e5b50f8d4133818ff0"), looks := false }, kinds := [], alts := [], laidByText := true, laidKinds := [.data, .data, .data], laidTests := true, laidLooks := .later }
def BitsMinusUptoCardSaid : Prop := Claim7.holds Tryd.pinned (.plain (OpenSpec.upto bitsMinusSpec)) bitsMinusUptoCard
end Rows
end Go.Proofs.YtjcppnleoahaiaaDoor
