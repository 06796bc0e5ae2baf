/-
  DERIVED. GIVEN WITH THE SEED: THE CARDS: each row of YtaohfmmapammcaaDoorRows.lean that lists a variable, with what it lists TIED to the program's text (the seventh form; the later family's looks); each row that meets fmt, with fmt's text TOLD by the authors' own Lean function (tested against real Go, not proved from fmt's source: count such statements apart). THE CARD IS WHAT COUNTS. Prove the row's statement (the work); the ties are given (YtaohfmmapammcaaDoorTie.lean); close each card by the builder's one call (the guide's Derived/Test/ToyasCard.lean, 'card_holds'). Laid BY PROGRAM, IN A SANDBOX (cutbox-door.mjs). By AI agents, Wed Nov 11 2026. No macro, syntax, notation, axiom, sorry.
-/
import Derived.Test.YtaohfmmapammcaaDoorRows
import GoSem.ClaimSeven
namespace Go.Proofs.YtaohfmmapammcaaDoor
namespace Rows

/-- THE TIED CARD OF 'snapferrylaw06.ChunkTells'. -/
def chunkTellsCard : Claim7 := { stood := { row := chunkTellsRow, standIns := [], harness := (true, "127505c472808d85eac5dd0606d0a4b083d54a46d0e6437744fa7ae95d05d7af"), looks := false }, kinds := [], alts := [], laidByText := true, laidKinds := [.data, .pinned], laidTests := true, laidLooks := .later }
def ChunkTellsCardSaid : Prop := Claim7.holds Tryd.pinned (.plain (OpenSpec.ofChange chunkTellsSpec)) chunkTellsCard

/-- THE TIED CARD OF 'snapferrylaw06.ChunkFills'. -/
def chunkFillsCard : Claim7 := { stood := { row := chunkFillsRow, standIns := [], harness := (true, "127505c472808d85eac5dd0606d0a4b083d54a46d0e6437744fa7ae95d05d7af"), looks := false }, kinds := [], alts := [], laidByText := true, laidKinds := [.data, .pinned], laidTests := true, laidLooks := .later }
def ChunkFillsCardSaid : Prop := Claim7.holds Tryd.pinned (.plain (OpenSpec.ofChange chunkFillsSpec)) chunkFillsCard

/-- THE TIED CARD OF 'snapferrylaw06.ChunkBack'. -/
def chunkBackCard : Claim7 := { stood := { row := chunkBackRow, standIns := [], harness := (true, "127505c472808d85eac5dd0606d0a4b083d54a46d0e6437744fa7ae95d05d7af"), looks := false }, kinds := [], alts := [], laidByText := true, laidKinds := [.data, .pinned], laidTests := true, laidLooks := .later }
def ChunkBackCardSaid : Prop := Claim7.holds Tryd.pinned (.plain (OpenSpec.ofChange chunkBackSpec)) chunkBackCard

/-- THE TIED CARD OF 'snapferrylaw06.ChunkPuts'. -/
def chunkPutsCard : Claim7 := { stood := { row := chunkPutsRow, standIns := [], harness := (true, "127505c472808d85eac5dd0606d0a4b083d54a46d0e6437744fa7ae95d05d7af"), looks := false }, kinds := [], alts := [], laidByText := true, laidKinds := [.data, .pinned], laidTests := true, laidLooks := .later }
def ChunkPutsCardSaid : Prop := Claim7.holds Tryd.pinned (.plain (OpenSpec.ofChange chunkPutsSpec)) chunkPutsCard

/-- THE TIED CARD OF 'snapferrylaw06.ChunkCuts'. -/
def chunkCutsCard : Claim7 := { stood := { row := chunkCutsRow, standIns := [], harness := (true, "127505c472808d85eac5dd0606d0a4b083d54a46d0e6437744fa7ae95d05d7af"), looks := false }, kinds := [], alts := [], laidByText := true, laidKinds := [.data, .pinned], laidTests := true, laidLooks := .later }
def ChunkCutsCardSaid : Prop := Claim7.holds Tryd.pinned (.plain (OpenSpec.ofChange chunkCutsSpec)) chunkCutsCard

/-- THE SECOND FORM's CARD OF 'snapferrylaw06.ChunkTells'. -/
def chunkTellsUptoCard : Claim7 := { stood := { row := chunkTellsUptoRow, standIns := [], harness := (true, "127505c472808d85eac5dd0606d0a4b083d54a46d0e6437744fa7ae95d05d7af"), looks := false }, kinds := [], alts := [], laidByText := true, laidKinds := [.data, .pinned], laidTests := true, laidLooks := .later }
def ChunkTellsUptoCardSaid : Prop := Claim7.holds Tryd.pinned (.plain (OpenSpec.upto chunkTellsSpec)) chunkTellsUptoCard

/-- THE SECOND FORM's CARD OF 'snapferrylaw06.ChunkFills'. -/
def chunkFillsUptoCard : Claim7 := { stood := { row := chunkFillsUptoRow, standIns := [], harness := (true, "127505c472808d85eac5dd0606d0a4b083d54a46d0e6437744fa7ae95d05d7af"), looks := false }, kinds := [], alts := [], laidByText := true, laidKinds := [.data, .pinned], laidTests := true, laidLooks := .later }
def ChunkFillsUptoCardSaid : Prop := Claim7.holds Tryd.pinned (.plain (OpenSpec.upto chunkFillsSpec)) chunkFillsUptoCard

/-- THE SECOND FORM's CARD OF 'snapferrylaw06.ChunkBack'. -/
def chunkBackUptoCard : Claim7 := { stood := { row := chunkBackUptoRow, standIns := [], harness := (true, "127505c472808d85eac5dd0606d0a4b083d54a46d0e6437744fa7ae95d05d7af"), looks := false }, kinds := [], alts := [], laidByText := true, laidKinds := [.data, .pinned], laidTests := true, laidLooks := .later }
def ChunkBackUptoCardSaid : Prop := Claim7.holds Tryd.pinned (.plain (OpenSpec.upto chunkBackSpec)) chunkBackUptoCard

/-- THE SECOND FORM's CARD OF 'snapferrylaw06.ChunkPuts'. -/
def chunkPutsUptoCard : Claim7 := { stood := { row := chunkPutsUptoRow, standIns := [], harness := (true, "127505c472808d85eac5dd0606d0a4b083d54a46d0e6437744fa7ae95d05d7af"), looks := false }, kinds := [], alts := [], laidByText := true, laidKinds := [.data, .pinned], laidTests := true, laidLooks := .later }
def ChunkPutsUptoCardSaid : Prop := Claim7.holds Tryd.pinned (.plain (OpenSpec.upto chunkPutsSpec)) chunkPutsUptoCard

/-- THE SECOND FORM's CARD OF 'snapferrylaw06.ChunkCuts'. -/
def chunkCutsUptoCard : Claim7 := { stood := { row := chunkCutsUptoRow, standIns := [], harness := (true, "127505c472808d85eac5dd0606d0a4b083d54a46d0e6437744fa7ae95d05d7af"), looks := false }, kinds := [], alts := [], laidByText := true, laidKinds := [.data, .pinned], laidTests := true, laidLooks := .later }
def ChunkCutsUptoCardSaid : Prop := Claim7.holds Tryd.pinned (.plain (OpenSpec.upto chunkCutsSpec)) chunkCutsUptoCard
end Rows
end Go.Proofs.YtaohfmmapammcaaDoor
