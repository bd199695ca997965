/-
  DERIVED. GIVEN WITH THE SEED: THE CARDS: each row of YtbghfbhlbfcloaaDoorRows.lean that lists a variable, with what it lists TIED to the program's text (the seventh form; the later family's looks); each row that meets fmt, with fmt's text TOLD by the authors' own Lean function (tested against real Go, not proved from fmt's source: count such statements apart). THE CARD IS WHAT COUNTS. Prove the row's statement (the work); the ties are given (YtbghfbhlbfcloaaDoorTie.lean); close each card by the builder's one call (the guide's Derived/Test/ToyasCard.lean, 'card_holds'). Laid BY PROGRAM, IN A SANDBOX (cutbox-door.mjs). By AI agents, Wed Nov 11 2026. No macro, syntax, notation, axiom, sorry.
-/
import Derived.Test.YtbghfbhlbfcloaaDoorRows
import GoSem.ClaimSeven
namespace Go.Proofs.YtbghfbhlbfcloaaDoor
namespace Rows

/-- THE TIED CARD OF 'dowellaw29.LiaisonCuts'. -/
def liaisonCutsCard : Claim7 := { stood := { row := liaisonCutsRow, standIns := [], harness := (true, "fe5b0fdd4b37838809d2b07904268484cb9f35f5021456012c197c6c3a5b2360"), looks := false }, kinds := [], alts := [], laidByText := true, laidKinds := [.data, .data], laidTests := true, laidLooks := .later }
def LiaisonCutsCardSaid : Prop := Claim7.holds Tryd.pinned (.plain (OpenSpec.ofChange liaisonCutsSpec)) liaisonCutsCard

/-- THE TIED CARD OF 'dowellaw29.LiaisonConnects'. -/
def liaisonConnectsCard : Claim7 := { stood := { row := liaisonConnectsRow, standIns := [], harness := (true, "fe5b0fdd4b37838809d2b07904268484cb9f35f5021456012c197c6c3a5b2360"), looks := false }, kinds := [], alts := [], laidByText := true, laidKinds := [.data, .data], laidTests := true, laidLooks := .later }
def LiaisonConnectsCardSaid : Prop := Claim7.holds Tryd.pinned (.plain (OpenSpec.ofChange liaisonConnectsSpec)) liaisonConnectsCard

/-- THE TIED CARD OF 'dowellaw29.LiaisonLoose'. -/
def liaisonLooseCard : Claim7 := { stood := { row := liaisonLooseRow, standIns := [], harness := (true, "fe5b0fdd4b37838809d2b07904268484cb9f35f5021456012c197c6c3a5b2360"), looks := false }, kinds := [], alts := [], laidByText := true, laidKinds := [.data, .data], laidTests := true, laidLooks := .later }
def LiaisonLooseCardSaid : Prop := Claim7.holds Tryd.pinned (.plain (OpenSpec.ofChange liaisonLooseSpec)) liaisonLooseCard

/-- THE TIED CARD OF 'dowellaw29.LiaisonGroups'. -/
def liaisonGroupsCard : Claim7 := { stood := { row := liaisonGroupsRow, standIns := [], harness := (true, "fe5b0fdd4b37838809d2b07904268484cb9f35f5021456012c197c6c3a5b2360"), looks := false }, kinds := [], alts := [], laidByText := true, laidKinds := [.data, .data], laidTests := true, laidLooks := .later }
def LiaisonGroupsCardSaid : Prop := Claim7.holds Tryd.pinned (.plain (OpenSpec.ofChange liaisonGroupsSpec)) liaisonGroupsCard

/-- THE SECOND FORM's CARD OF 'dowellaw29.LiaisonCuts'. -/
def liaisonCutsUptoCard : Claim7 := { stood := { row := liaisonCutsUptoRow, standIns := [], harness := (true, "fe5b0fdd4b37838809d2b07904268484cb9f35f5021456012c197c6c3a5b2360"), looks := false }, kinds := [], alts := [], laidByText := true, laidKinds := [.data, .data], laidTests := true, laidLooks := .later }
def LiaisonCutsUptoCardSaid : Prop := Claim7.holds Tryd.pinned (.plain (OpenSpec.upto liaisonCutsSpec)) liaisonCutsUptoCard

/-- THE SECOND FORM's CARD OF 'dowellaw29.LiaisonConnects'. -/
def liaisonConnectsUptoCard : Claim7 := { stood := { row := liaisonConnectsUptoRow, standIns := [], harness := (true, "fe5b0fdd4b37838809d2b07904268484cb9f35f5021456012c197c6c3a5b2360"), looks := false }, kinds := [], alts := [], laidByText := true, laidKinds := [.data, .data], laidTests := true, laidLooks := .later }
def LiaisonConnectsUptoCardSaid : Prop := Claim7.holds Tryd.pinned (.plain (OpenSpec.upto liaisonConnectsSpec)) liaisonConnectsUptoCard

/-- THE SECOND FORM's CARD OF 'dowellaw29.LiaisonLoose'. -/
def liaisonLooseUptoCard : Claim7 := { stood := { row := liaisonLooseUptoRow, standIns := [], harness := (true, "fe5b0fdd4b37838809d2b07904268484cb9f35f5021456012c197c6c3a5b2360"), looks := false }, kinds := [], alts := [], laidByText := true, laidKinds := [.data, .data], laidTests := true, laidLooks := .later }
def LiaisonLooseUptoCardSaid : Prop := Claim7.holds Tryd.pinned (.plain (OpenSpec.upto liaisonLooseSpec)) liaisonLooseUptoCard

/-- THE SECOND FORM's CARD OF 'dowellaw29.LiaisonGroups'. -/
def liaisonGroupsUptoCard : Claim7 := { stood := { row := liaisonGroupsUptoRow, standIns := [], harness := (true, "fe5b0fdd4b37838809d2b07904268484cb9f35f5021456012c197c6c3a5b2360"), looks := false }, kinds := [], alts := [], laidByText := true, laidKinds := [.data, .data], laidTests := true, laidLooks := .later }
def LiaisonGroupsUptoCardSaid : Prop := Claim7.holds Tryd.pinned (.plain (OpenSpec.upto liaisonGroupsSpec)) liaisonGroupsUptoCard
end Rows
end Go.Proofs.YtbghfbhlbfcloaaDoor
