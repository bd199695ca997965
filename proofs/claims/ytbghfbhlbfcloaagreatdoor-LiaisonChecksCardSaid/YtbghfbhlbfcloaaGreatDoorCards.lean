/-
  DERIVED. GIVEN WITH THE SEED: THE CARDS: each row of YtbghfbhlbfcloaaGreatDoorRows.lean that lists a variable, with what it lists TIED to the program's text (the seventh form; the later family's looks); each row that meets fmt, with fmt's text TOLD by the authors' own Lean function (tested against real Go, not proved from fmt's source: count such statements apart). THE CARD IS WHAT COUNTS. Prove the row's statement (the work); the ties are given (YtbghfbhlbfcloaaGreatDoorTie.lean); close each card by the builder's one call (the guide's Derived/Test/ToyasCard.lean, 'card_holds'). Laid BY PROGRAM, IN A SANDBOX (cutbox-door.mjs). By AI agents, Wed Nov 11 2026. No macro, syntax, notation, axiom, sorry.
-/
import Derived.Test.YtbghfbhlbfcloaaGreatDoorRows
import GoSem.ClaimSeven
namespace Go.Proofs.YtbghfbhlbfcloaaGreatDoor
namespace Rows

/-- THE TIED CARD OF 'dowellaw29.LiaisonSubsets'. -/
def liaisonSubsetsCard : Claim7 := { stood := { row := liaisonSubsetsRow, standIns := [], harness := (true, "3d7526131b41b91625d7876f5627ce475d387eb5c1d08aa9745633953dc5f22f"), looks := false }, kinds := [], alts := [], laidByText := true, laidKinds := [.data, .data], laidTests := true, laidLooks := .later }
def LiaisonSubsetsCardSaid : Prop := Claim7.holds Tryz.pinned (.plain (OpenSpec.ofChange liaisonSubsetsSpec)) liaisonSubsetsCard

/-- THE TIED CARD OF 'dowellaw29.LiaisonDivides'. -/
def liaisonDividesCard : Claim7 := { stood := { row := liaisonDividesRow, standIns := [], harness := (true, "3d7526131b41b91625d7876f5627ce475d387eb5c1d08aa9745633953dc5f22f"), looks := false }, kinds := [], alts := [], laidByText := true, laidKinds := [.data, .data], laidTests := true, laidLooks := .later }
def LiaisonDividesCardSaid : Prop := Claim7.holds Tryz.pinned (.plain (OpenSpec.ofChange liaisonDividesSpec)) liaisonDividesCard

/-- THE TIED CARD OF 'dowellaw29.LiaisonChecks'. -/
def liaisonChecksCard : Claim7 := { stood := { row := liaisonChecksRow, standIns := [], harness := (true, "3d7526131b41b91625d7876f5627ce475d387eb5c1d08aa9745633953dc5f22f"), looks := false }, kinds := [], alts := [], laidByText := true, laidKinds := [.data, .data], laidTests := true, laidLooks := .later }
def LiaisonChecksCardSaid : Prop := Claim7.holds Tryz.pinned (.plain (OpenSpec.ofChange liaisonChecksSpec)) liaisonChecksCard

/-- THE SECOND FORM's CARD OF 'dowellaw29.LiaisonSubsets'. -/
def liaisonSubsetsUptoCard : Claim7 := { stood := { row := liaisonSubsetsUptoRow, standIns := [], harness := (true, "3d7526131b41b91625d7876f5627ce475d387eb5c1d08aa9745633953dc5f22f"), looks := false }, kinds := [], alts := [], laidByText := true, laidKinds := [.data, .data], laidTests := true, laidLooks := .later }
def LiaisonSubsetsUptoCardSaid : Prop := Claim7.holds Tryz.pinned (.plain (OpenSpec.upto liaisonSubsetsSpec)) liaisonSubsetsUptoCard

/-- THE SECOND FORM's CARD OF 'dowellaw29.LiaisonDivides'. -/
def liaisonDividesUptoCard : Claim7 := { stood := { row := liaisonDividesUptoRow, standIns := [], harness := (true, "3d7526131b41b91625d7876f5627ce475d387eb5c1d08aa9745633953dc5f22f"), looks := false }, kinds := [], alts := [], laidByText := true, laidKinds := [.data, .data], laidTests := true, laidLooks := .later }
def LiaisonDividesUptoCardSaid : Prop := Claim7.holds Tryz.pinned (.plain (OpenSpec.upto liaisonDividesSpec)) liaisonDividesUptoCard

/-- THE SECOND FORM's CARD OF 'dowellaw29.LiaisonChecks'. -/
def liaisonChecksUptoCard : Claim7 := { stood := { row := liaisonChecksUptoRow, standIns := [], harness := (true, "3d7526131b41b91625d7876f5627ce475d387eb5c1d08aa9745633953dc5f22f"), looks := false }, kinds := [], alts := [], laidByText := true, laidKinds := [.data, .data], laidTests := true, laidLooks := .later }
def LiaisonChecksUptoCardSaid : Prop := Claim7.holds Tryz.pinned (.plain (OpenSpec.upto liaisonChecksSpec)) liaisonChecksUptoCard
end Rows
end Go.Proofs.YtbghfbhlbfcloaaGreatDoor
