/-
  DERIVED. GIVEN WITH THE SEED: THE CARDS: each row of YtenlokbfjajbbaaDoorRows.lean that lists a variable, with what it lists TIED to the program's text (the seventh form; the later family's looks); each row that meets fmt, with fmt's text TOLD by the authors' own Lean function (tested against real Go, not proved from fmt's source: count such statements apart). THE CARD IS WHAT COUNTS. Prove the row's statement (the work); the ties are given (YtenlokbfjajbbaaDoorTie.lean); close each card by the builder's one call (the guide's Derived/Test/ToyasCard.lean, 'card_holds'). Laid BY PROGRAM, IN A SANDBOX (cutbox-door.mjs). By AI agents, Wed Nov 11 2026. No macro, syntax, notation, axiom, sorry.
-/
import Derived.Test.YtenlokbfjajbbaaDoorRows
import GoSem.ClaimSeven
namespace Go.Proofs.YtenlokbfjajbbaaDoor
namespace Rows

/-- THE TIED CARD OF 'snapferrylaw09.NameTells'. -/
def nameTellsCard : Claim7 := { stood := { row := nameTellsRow, standIns := [], harness := (true, "807e27f38b038ae89f57328170184b905b79e9c8cb0651ab92e2331e097ba697"), looks := false }, kinds := [], alts := [], laidByText := true, laidKinds := [.data, .pinned], laidTests := true, laidLooks := .later }
def NameTellsCardSaid : Prop := Claim7.holds Tryd.pinned (.plain (OpenSpec.ofChange nameTellsSpec)) nameTellsCard

/-- THE TIED CARD OF 'snapferrylaw09.NameBack'. -/
def nameBackCard : Claim7 := { stood := { row := nameBackRow, standIns := [], harness := (true, "807e27f38b038ae89f57328170184b905b79e9c8cb0651ab92e2331e097ba697"), looks := false }, kinds := [], alts := [], laidByText := true, laidKinds := [.data, .pinned], laidTests := true, laidLooks := .later }
def NameBackCardSaid : Prop := Claim7.holds Tryd.pinned (.plain (OpenSpec.ofChange nameBackSpec)) nameBackCard

/-- THE TIED CARD OF 'snapferrylaw09.NameWithin'. -/
def nameWithinCard : Claim7 := { stood := { row := nameWithinRow, standIns := [], harness := (true, "807e27f38b038ae89f57328170184b905b79e9c8cb0651ab92e2331e097ba697"), looks := false }, kinds := [], alts := [], laidByText := true, laidKinds := [.data, .pinned], laidTests := true, laidLooks := .later }
def NameWithinCardSaid : Prop := Claim7.holds Tryd.pinned (.plain (OpenSpec.ofChange nameWithinSpec)) nameWithinCard

/-- THE SECOND FORM's CARD OF 'snapferrylaw09.NameTells'. -/
def nameTellsUptoCard : Claim7 := { stood := { row := nameTellsUptoRow, standIns := [], harness := (true, "807e27f38b038ae89f57328170184b905b79e9c8cb0651ab92e2331e097ba697"), looks := false }, kinds := [], alts := [], laidByText := true, laidKinds := [.data, .pinned], laidTests := true, laidLooks := .later }
def NameTellsUptoCardSaid : Prop := Claim7.holds Tryd.pinned (.plain (OpenSpec.upto nameTellsSpec)) nameTellsUptoCard

/-- THE SECOND FORM's CARD OF 'snapferrylaw09.NameBack'. -/
def nameBackUptoCard : Claim7 := { stood := { row := nameBackUptoRow, standIns := [], harness := (true, "807e27f38b038ae89f57328170184b905b79e9c8cb0651ab92e2331e097ba697"), looks := false }, kinds := [], alts := [], laidByText := true, laidKinds := [.data, .pinned], laidTests := true, laidLooks := .later }
def NameBackUptoCardSaid : Prop := Claim7.holds Tryd.pinned (.plain (OpenSpec.upto nameBackSpec)) nameBackUptoCard

/-- THE SECOND FORM's CARD OF 'snapferrylaw09.NameWithin'. -/
def nameWithinUptoCard : Claim7 := { stood := { row := nameWithinUptoRow, standIns := [], harness := (true, "807e27f38b038ae89f57328170184b905b79e9c8cb0651ab92e2331e097ba697"), looks := false }, kinds := [], alts := [], laidByText := true, laidKinds := [.data, .pinned], laidTests := true, laidLooks := .later }
def NameWithinUptoCardSaid : Prop := Claim7.holds Tryd.pinned (.plain (OpenSpec.upto nameWithinSpec)) nameWithinUptoCard
end Rows
end Go.Proofs.YtenlokbfjajbbaaDoor
