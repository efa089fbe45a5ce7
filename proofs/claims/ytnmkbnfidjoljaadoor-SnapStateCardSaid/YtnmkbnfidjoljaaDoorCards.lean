/-
  DERIVED. GIVEN WITH THE SEED: THE CARDS: each row of YtnmkbnfidjoljaaDoorRows.lean that lists a variable, with what it lists TIED to the program's text (the seventh form; the later family's looks); each row that meets fmt, with fmt's text TOLD by the authors' own Lean function (tested against real Go, not proved from fmt's source: count such statements apart). THE CARD IS WHAT COUNTS. Prove the row's statement (the work); the ties are given (YtnmkbnfidjoljaaDoorTie.lean); close each card by the builder's one call (the guide's Derived/Test/ToyasCard.lean, 'card_holds'). Laid BY PROGRAM, IN A SANDBOX (cutbox-door.mjs). By AI agents, Wed Nov 11 2026. No macro, syntax, notation, axiom, sorry.
-/
import Derived.Test.YtnmkbnfidjoljaaDoorRows
import GoSem.ClaimSeven
namespace Go.Proofs.YtnmkbnfidjoljaaDoor
namespace Rows

/-- THE TIED CARD OF 'coffretlaw18.SnapDoes'. -/
def snapDoesCard : Claim7 := { stood := { row := snapDoesRow, standIns := [], harness := (true, "966f9f35a4cbca90f0a71d87ea0b3fa4fe318bef6e1e96fbfea0ec53c06e0a0f"), looks := false }, kinds := [], alts := [], laidByText := true, laidKinds := [.data, .data, .data, .data, .data, .data, .data], laidTests := true, laidLooks := .later }
def SnapDoesCardSaid : Prop := Claim7.holds Tryd.pinned (.plain (OpenSpec.ofChange snapDoesSpec)) snapDoesCard

/-- THE TIED CARD OF 'coffretlaw18.SnapState'. -/
def snapStateCard : Claim7 := { stood := { row := snapStateRow, standIns := [], harness := (true, "966f9f35a4cbca90f0a71d87ea0b3fa4fe318bef6e1e96fbfea0ec53c06e0a0f"), looks := false }, kinds := [], alts := [], laidByText := true, laidKinds := [.data, .data, .data, .data, .data, .data, .data], laidTests := true, laidLooks := .later }
def SnapStateCardSaid : Prop := Claim7.holds Tryd.pinned (.plain (OpenSpec.ofChange snapStateSpec)) snapStateCard

/-- THE TIED CARD OF 'coffretlaw18.SnapRefuses'. -/
def snapRefusesCard : Claim7 := { stood := { row := snapRefusesRow, standIns := [], harness := (true, "966f9f35a4cbca90f0a71d87ea0b3fa4fe318bef6e1e96fbfea0ec53c06e0a0f"), looks := false }, kinds := [], alts := [], laidByText := true, laidKinds := [.data, .data, .data, .data, .data, .data, .data], laidTests := true, laidLooks := .later }
def SnapRefusesCardSaid : Prop := Claim7.holds Tryd.pinned (.plain (OpenSpec.ofChange snapRefusesSpec)) snapRefusesCard

/-- THE TIED CARD OF 'coffretlaw18.SnapGoes'. -/
def snapGoesCard : Claim7 := { stood := { row := snapGoesRow, standIns := [], harness := (true, "966f9f35a4cbca90f0a71d87ea0b3fa4fe318bef6e1e96fbfea0ec53c06e0a0f"), looks := false }, kinds := [], alts := [], laidByText := true, laidKinds := [.data, .data, .data, .data, .data, .data, .data], laidTests := true, laidLooks := .later }
def SnapGoesCardSaid : Prop := Claim7.holds Tryd.pinned (.plain (OpenSpec.ofChange snapGoesSpec)) snapGoesCard

/-- THE TIED CARD OF 'coffretlaw18.SnapLoses'. -/
def snapLosesCard : Claim7 := { stood := { row := snapLosesRow, standIns := [], harness := (true, "966f9f35a4cbca90f0a71d87ea0b3fa4fe318bef6e1e96fbfea0ec53c06e0a0f"), looks := false }, kinds := [], alts := [], laidByText := true, laidKinds := [.data, .data, .data, .data, .data, .data, .data], laidTests := true, laidLooks := .later }
def SnapLosesCardSaid : Prop := Claim7.holds Tryd.pinned (.plain (OpenSpec.ofChange snapLosesSpec)) snapLosesCard

/-- THE SECOND FORM's CARD OF 'coffretlaw18.SnapDoes'. -/
def snapDoesUptoCard : Claim7 := { stood := { row := snapDoesUptoRow, standIns := [], harness := (true, "966f9f35a4cbca90f0a71d87ea0b3fa4fe318bef6e1e96fbfea0ec53c06e0a0f"), looks := false }, kinds := [], alts := [], laidByText := true, laidKinds := [.data, .data, .data, .data, .data, .data, .data], laidTests := true, laidLooks := .later }
def SnapDoesUptoCardSaid : Prop := Claim7.holds Tryd.pinned (.plain (OpenSpec.upto snapDoesSpec)) snapDoesUptoCard

/-- THE SECOND FORM's CARD OF 'coffretlaw18.SnapState'. -/
def snapStateUptoCard : Claim7 := { stood := { row := snapStateUptoRow, standIns := [], harness := (true, "966f9f35a4cbca90f0a71d87ea0b3fa4fe318bef6e1e96fbfea0ec53c06e0a0f"), looks := false }, kinds := [], alts := [], laidByText := true, laidKinds := [.data, .data, .data, .data, .data, .data, .data], laidTests := true, laidLooks := .later }
def SnapStateUptoCardSaid : Prop := Claim7.holds Tryd.pinned (.plain (OpenSpec.upto snapStateSpec)) snapStateUptoCard

/-- THE SECOND FORM's CARD OF 'coffretlaw18.SnapRefuses'. -/
def snapRefusesUptoCard : Claim7 := { stood := { row := snapRefusesUptoRow, standIns := [], harness := (true, "966f9f35a4cbca90f0a71d87ea0b3fa4fe318bef6e1e96fbfea0ec53c06e0a0f"), looks := false }, kinds := [], alts := [], laidByText := true, laidKinds := [.data, .data, .data, .data, .data, .data, .data], laidTests := true, laidLooks := .later }
def SnapRefusesUptoCardSaid : Prop := Claim7.holds Tryd.pinned (.plain (OpenSpec.upto snapRefusesSpec)) snapRefusesUptoCard

/-- THE SECOND FORM's CARD OF 'coffretlaw18.SnapGoes'. -/
def snapGoesUptoCard : Claim7 := { stood := { row := snapGoesUptoRow, standIns := [], harness := (true, "966f9f35a4cbca90f0a71d87ea0b3fa4fe318bef6e1e96fbfea0ec53c06e0a0f"), looks := false }, kinds := [], alts := [], laidByText := true, laidKinds := [.data, .data, .data, .data, .data, .data, .data], laidTests := true, laidLooks := .later }
def SnapGoesUptoCardSaid : Prop := Claim7.holds Tryd.pinned (.plain (OpenSpec.upto snapGoesSpec)) snapGoesUptoCard

/-- THE SECOND FORM's CARD OF 'coffretlaw18.SnapLoses'. -/
def snapLosesUptoCard : Claim7 := { stood := { row := snapLosesUptoRow, standIns := [], harness := (true, "966f9f35a4cbca90f0a71d87ea0b3fa4fe318bef6e1e96fbfea0ec53c06e0a0f"), looks := false }, kinds := [], alts := [], laidByText := true, laidKinds := [.data, .data, .data, .data, .data, .data, .data], laidTests := true, laidLooks := .later }
def SnapLosesUptoCardSaid : Prop := Claim7.holds Tryd.pinned (.plain (OpenSpec.upto snapLosesSpec)) snapLosesUptoCard
end Rows
end Go.Proofs.YtnmkbnfidjoljaaDoor
