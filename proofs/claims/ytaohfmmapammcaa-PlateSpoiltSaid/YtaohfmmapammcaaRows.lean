/-
  No cell of these rows narrows 'for every input' (looked for: loops, veiled, ifaces, maps, wideKeys, modest, calm, conditions, laid).
  DERIVED. THE GIVEN ROWS OF THIS SEAT. 7 by the template 'for every input the law returns true; each argument reads behind the call as it read before'; 0 by the template 'total and deterministic' (their statements: YtaohfmmapammcaaTotals.lean).
  GIVEN WITH THE SEED: the statements are not yours to turn. If you find one false, say at which input.
  Laid BY PROGRAM, IN A SANDBOX (cutbox-rows.mjs): the forced cells as the released guide's own fill.sh prints them over the translation 16c5b62f0f88a12f… (all of the seat's roots in one cut). By AI agents, Wed Nov 11 2026. No macro, syntax, notation, axiom, sorry.
-/
import Derived.Test.YtaohfmmapammcaaChecked
import GoSem.Claim
import GoSem.ClaimJoined
import GoSem.ClaimMapViews
import Derived.JoinedTies
import Derived.KernelRfl
namespace Go.Proofs.Ytaohfmmapammcaa
/- THE CELL 'sum', in the pinned program and in every row, IS THE sha256 OF THE DUMP (.gsa) THAT YtaohfmmapammcaaProg.lean LOADS. Nothing in Lean hashes anything: it is a label: what it is worth is what the hold of that sum in a sandbox is worth. -/
noncomputable def Try.pinned : Pinned := { name := "ytaohfmmapammcaa", sum := "16c5b62f0f88a12fd2b5b06a934c6a964528ae5523dd4509be10af832513ded5", checked := Try.checked }
namespace Rows
def none {H : Type} : Left H := { results := [], args := [] }

/-- 'snapferrylaw01.DigestTells': WHATEVER THE INPUT: true; the input reads as it did. -/
def digestTellsSpec : ChangeSpec := { name := "digestTells", fn := fun _ => fun
  | [d1, d2] => { results := [.lit (.bool true)], args := [d1, d2] }
  | _ => none }
def digestTellsRow : OpenClaim := { program := "ytaohfmmapammcaa", sum := "16c5b62f0f88a12fd2b5b06a934c6a964528ae5523dd4509be10af832513ded5", func := "snapferry/snapferrylaw01.DigestTells", spec := "digestTells", inPlace := ["internal/abi.NoEscape", "internal/bytealg.MakeNoZero"], apart := false }
def DigestTellsSaid : Prop := digestTellsRow.holds Try.pinned (OpenSpec.ofChange digestTellsSpec)

/-- ITS FALSE NEIGHBOUR: 'it returns false'. Refute it at one input. -/
def digestTellsWrong : ChangeSpec := { name := "digestTells", fn := fun _ => fun
  | [d1, d2] => { results := [.lit (.bool false)], args := [d1, d2] }
  | _ => none }
def DigestTellsWrongFalsely : Prop := digestTellsRow.holds Try.pinned (OpenSpec.ofChange digestTellsWrong)

/-- 'snapferrylaw18.PlateSpoilt': WHATEVER THE INPUT: true; the input reads as it did. -/
def plateSpoiltSpec : ChangeSpec := { name := "plateSpoilt", fn := fun _ => fun
  | [d1, d2] => { results := [.lit (.bool true)], args := [d1, d2] }
  | _ => none }
def plateSpoiltRow : OpenClaim := { program := "ytaohfmmapammcaa", sum := "16c5b62f0f88a12fd2b5b06a934c6a964528ae5523dd4509be10af832513ded5", func := "snapferry/snapferrylaw18.PlateSpoilt", spec := "plateSpoilt", inPlace := ["internal/abi.NoEscape", "internal/bytealg.MakeNoZero"], unfollowed := true, recurses := true, apart := false }
def PlateSpoiltSaid : Prop := plateSpoiltRow.holds Try.pinned (OpenSpec.ofChange plateSpoiltSpec)

/-- ITS FALSE NEIGHBOUR: 'it returns false'. Refute it at one input. -/
def plateSpoiltWrong : ChangeSpec := { name := "plateSpoilt", fn := fun _ => fun
  | [d1, d2] => { results := [.lit (.bool false)], args := [d1, d2] }
  | _ => none }
def PlateSpoiltWrongFalsely : Prop := plateSpoiltRow.holds Try.pinned (OpenSpec.ofChange plateSpoiltWrong)

/-- 'snapferrylaw18.PlateWrites': WHATEVER THE INPUT: true; the input reads as it did. -/
def plateWritesSpec : ChangeSpec := { name := "plateWrites", fn := fun _ => fun
  | [d1, d2] => { results := [.lit (.bool true)], args := [d1, d2] }
  | _ => none }
def plateWritesRow : OpenClaim := { program := "ytaohfmmapammcaa", sum := "16c5b62f0f88a12fd2b5b06a934c6a964528ae5523dd4509be10af832513ded5", func := "snapferry/snapferrylaw18.PlateWrites", spec := "plateWrites", inPlace := ["internal/abi.NoEscape", "internal/bytealg.MakeNoZero"], unfollowed := true, recurses := true, apart := false }
def PlateWritesSaid : Prop := plateWritesRow.holds Try.pinned (OpenSpec.ofChange plateWritesSpec)

/-- ITS FALSE NEIGHBOUR: 'it returns false'. Refute it at one input. -/
def plateWritesWrong : ChangeSpec := { name := "plateWrites", fn := fun _ => fun
  | [d1, d2] => { results := [.lit (.bool false)], args := [d1, d2] }
  | _ => none }
def PlateWritesWrongFalsely : Prop := plateWritesRow.holds Try.pinned (OpenSpec.ofChange plateWritesWrong)

/-- 'snapferrylaw18.PlateHalves': WHATEVER THE INPUT: true; the input reads as it did. -/
def plateHalvesSpec : ChangeSpec := { name := "plateHalves", fn := fun _ => fun
  | [d] => { results := [.lit (.bool true)], args := [d] }
  | _ => none }
def plateHalvesRow : OpenClaim := { program := "ytaohfmmapammcaa", sum := "16c5b62f0f88a12fd2b5b06a934c6a964528ae5523dd4509be10af832513ded5", func := "snapferry/snapferrylaw18.PlateHalves", spec := "plateHalves", inPlace := ["internal/abi.NoEscape", "internal/bytealg.MakeNoZero"], unfollowed := true, recurses := true, apart := false }
def PlateHalvesSaid : Prop := plateHalvesRow.holds Try.pinned (OpenSpec.ofChange plateHalvesSpec)

/-- ITS FALSE NEIGHBOUR: 'it returns false'. Refute it at one input. -/
def plateHalvesWrong : ChangeSpec := { name := "plateHalves", fn := fun _ => fun
  | [d] => { results := [.lit (.bool false)], args := [d] }
  | _ => none }
def PlateHalvesWrongFalsely : Prop := plateHalvesRow.holds Try.pinned (OpenSpec.ofChange plateHalvesWrong)

/-- 'snapferrylaw07.StorePlays': WHATEVER THE INPUT: true; the input reads as it did. -/
def storePlaysSpec : ChangeSpec := { name := "storePlays", fn := fun _ => fun
  | [d1, d2] => { results := [.lit (.bool true)], args := [d1, d2] }
  | _ => none }
def storePlaysRow : OpenClaim := { program := "ytaohfmmapammcaa", sum := "16c5b62f0f88a12fd2b5b06a934c6a964528ae5523dd4509be10af832513ded5", func := "snapferry/snapferrylaw07.StorePlays", spec := "storePlays", inPlace := ["internal/abi.NoEscape", "internal/bytealg.MakeNoZero", "maps.clone"], unfollowed := true, recurses := true, apart := false }
def StorePlaysSaid : Prop := storePlaysRow.holds Try.pinned (OpenSpec.ofChange storePlaysSpec)

/-- ITS FALSE NEIGHBOUR: 'it returns false'. Refute it at one input. -/
def storePlaysWrong : ChangeSpec := { name := "storePlays", fn := fun _ => fun
  | [d1, d2] => { results := [.lit (.bool false)], args := [d1, d2] }
  | _ => none }
def StorePlaysWrongFalsely : Prop := storePlaysRow.holds Try.pinned (OpenSpec.ofChange storePlaysWrong)

/-- 'snapferrylaw07.StoreRoom': WHATEVER THE INPUT: true; the input reads as it did. -/
def storeRoomSpec : ChangeSpec := { name := "storeRoom", fn := fun _ => fun
  | [d1, d2, d3] => { results := [.lit (.bool true)], args := [d1, d2, d3] }
  | _ => none }
def storeRoomRow : OpenClaim := { program := "ytaohfmmapammcaa", sum := "16c5b62f0f88a12fd2b5b06a934c6a964528ae5523dd4509be10af832513ded5", func := "snapferry/snapferrylaw07.StoreRoom", spec := "storeRoom", inPlace := ["internal/abi.NoEscape", "internal/bytealg.MakeNoZero", "maps.clone"], unfollowed := true, recurses := true, apart := false }
def StoreRoomSaid : Prop := storeRoomRow.holds Try.pinned (OpenSpec.ofChange storeRoomSpec)

/-- ITS FALSE NEIGHBOUR: 'it returns false'. Refute it at one input. -/
def storeRoomWrong : ChangeSpec := { name := "storeRoom", fn := fun _ => fun
  | [d1, d2, d3] => { results := [.lit (.bool false)], args := [d1, d2, d3] }
  | _ => none }
def StoreRoomWrongFalsely : Prop := storeRoomRow.holds Try.pinned (OpenSpec.ofChange storeRoomWrong)

/-- 'snapferrylaw08.TreapDiffs': WHATEVER THE INPUT: true; the input reads as it did. -/
def treapDiffsSpec : ChangeSpec := { name := "treapDiffs", fn := fun _ => fun
  | [d1, d2] => { results := [.lit (.bool true)], args := [d1, d2] }
  | _ => none }
def treapDiffsRow : OpenClaim := { program := "ytaohfmmapammcaa", sum := "16c5b62f0f88a12fd2b5b06a934c6a964528ae5523dd4509be10af832513ded5", func := "snapferry/snapferrylaw08.TreapDiffs", spec := "treapDiffs", inPlace := ["internal/abi.NoEscape", "internal/bytealg.MakeNoZero"], unfollowed := true, recurses := true, apart := false }
def TreapDiffsSaid : Prop := treapDiffsRow.holds Try.pinned (OpenSpec.ofChange treapDiffsSpec)

/-- ITS FALSE NEIGHBOUR: 'it returns false'. Refute it at one input. -/
def treapDiffsWrong : ChangeSpec := { name := "treapDiffs", fn := fun _ => fun
  | [d1, d2] => { results := [.lit (.bool false)], args := [d1, d2] }
  | _ => none }
def TreapDiffsWrongFalsely : Prop := treapDiffsRow.holds Try.pinned (OpenSpec.ofChange treapDiffsWrong)

/- THE SECOND FORM. 'bulk': how many values and letters a reading holds, each counted each time it is reached (what is shared counts as often as it is met; a slice's spare places count too). A statement '..UptoSaid' is the law's where the arguments, and the package variables that the reading takes, are together of bulk at most 1048576: NARROWER than '..Said'. Prove '..Said' where nothing that the law and all that it calls make is longer than what came in: it says more and counts as full. Else prove '..UptoSaid'. A law counts once. -/
mutual
def uptoBulk {H : Type} : DataW H → Nat
  | .lit (.string bytes) => bytes.length + 1
  | .lit _ => 1
  | .nil => 1
  | .ptr d => uptoBulk d + 1
  | .slice elems spare => uptoBulkAll elems + uptoBulkAll spare + 1
  | .agg parts => uptoBulkAll parts + 1
  | .iface _ d => uptoBulk d + 1
  | .map entries => uptoBulkEntries entries + 1
  | .held _ => 1
def uptoBulkAll {H : Type} : List (DataW H) → Nat
  | [] => 0
  | d :: r => uptoBulk d + uptoBulkAll r
def uptoBulkEntries {H : Type} : List (Lit × DataW H) → Nat
  | [] => 0
  | x :: r => uptoBulkEntry x + uptoBulkEntries r
def uptoBulkEntry {H : Type} : Lit × DataW H → Nat
  | (.string bytes, d) => bytes.length + uptoBulk d + 1
  | (_, d) => uptoBulk d + 1
 end
def uptoSmall : (H : Type) → List (DataW H) → Bool := fun _ ds => decide (uptoBulkAll ds ≤ 1048576)
def OpenSpec.upto (s : _root_.Go.ChangeSpec) : _root_.Go.OpenSpec := { _root_.Go.OpenSpec.ofChange s with cond := some uptoSmall }

/-- 'snapferrylaw01.DigestTells', WHERE WHAT IT READS IS OF BULK AT MOST 1048576: true; the input reads as it did. -/
def digestTellsUptoRow : OpenClaim := { program := "ytaohfmmapammcaa", sum := "16c5b62f0f88a12fd2b5b06a934c6a964528ae5523dd4509be10af832513ded5", func := "snapferry/snapferrylaw01.DigestTells", spec := "digestTells", inPlace := ["internal/abi.NoEscape", "internal/bytealg.MakeNoZero"], apart := false, narrowed := true }
def DigestTellsUptoSaid : Prop := digestTellsUptoRow.holds Try.pinned (OpenSpec.upto digestTellsSpec)

/-- 'snapferrylaw18.PlateSpoilt', WHERE WHAT IT READS IS OF BULK AT MOST 1048576: true; the input reads as it did. -/
def plateSpoiltUptoRow : OpenClaim := { program := "ytaohfmmapammcaa", sum := "16c5b62f0f88a12fd2b5b06a934c6a964528ae5523dd4509be10af832513ded5", func := "snapferry/snapferrylaw18.PlateSpoilt", spec := "plateSpoilt", inPlace := ["internal/abi.NoEscape", "internal/bytealg.MakeNoZero"], unfollowed := true, recurses := true, apart := false, narrowed := true }
def PlateSpoiltUptoSaid : Prop := plateSpoiltUptoRow.holds Try.pinned (OpenSpec.upto plateSpoiltSpec)

/-- 'snapferrylaw18.PlateWrites', WHERE WHAT IT READS IS OF BULK AT MOST 1048576: true; the input reads as it did. -/
def plateWritesUptoRow : OpenClaim := { program := "ytaohfmmapammcaa", sum := "16c5b62f0f88a12fd2b5b06a934c6a964528ae5523dd4509be10af832513ded5", func := "snapferry/snapferrylaw18.PlateWrites", spec := "plateWrites", inPlace := ["internal/abi.NoEscape", "internal/bytealg.MakeNoZero"], unfollowed := true, recurses := true, apart := false, narrowed := true }
def PlateWritesUptoSaid : Prop := plateWritesUptoRow.holds Try.pinned (OpenSpec.upto plateWritesSpec)

/-- 'snapferrylaw18.PlateHalves', WHERE WHAT IT READS IS OF BULK AT MOST 1048576: true; the input reads as it did. -/
def plateHalvesUptoRow : OpenClaim := { program := "ytaohfmmapammcaa", sum := "16c5b62f0f88a12fd2b5b06a934c6a964528ae5523dd4509be10af832513ded5", func := "snapferry/snapferrylaw18.PlateHalves", spec := "plateHalves", inPlace := ["internal/abi.NoEscape", "internal/bytealg.MakeNoZero"], unfollowed := true, recurses := true, apart := false, narrowed := true }
def PlateHalvesUptoSaid : Prop := plateHalvesUptoRow.holds Try.pinned (OpenSpec.upto plateHalvesSpec)

/-- 'snapferrylaw07.StorePlays', WHERE WHAT IT READS IS OF BULK AT MOST 1048576: true; the input reads as it did. -/
def storePlaysUptoRow : OpenClaim := { program := "ytaohfmmapammcaa", sum := "16c5b62f0f88a12fd2b5b06a934c6a964528ae5523dd4509be10af832513ded5", func := "snapferry/snapferrylaw07.StorePlays", spec := "storePlays", inPlace := ["internal/abi.NoEscape", "internal/bytealg.MakeNoZero", "maps.clone"], unfollowed := true, recurses := true, apart := false, narrowed := true }
def StorePlaysUptoSaid : Prop := storePlaysUptoRow.holds Try.pinned (OpenSpec.upto storePlaysSpec)

/-- 'snapferrylaw07.StoreRoom', WHERE WHAT IT READS IS OF BULK AT MOST 1048576: true; the input reads as it did. -/
def storeRoomUptoRow : OpenClaim := { program := "ytaohfmmapammcaa", sum := "16c5b62f0f88a12fd2b5b06a934c6a964528ae5523dd4509be10af832513ded5", func := "snapferry/snapferrylaw07.StoreRoom", spec := "storeRoom", inPlace := ["internal/abi.NoEscape", "internal/bytealg.MakeNoZero", "maps.clone"], unfollowed := true, recurses := true, apart := false, narrowed := true }
def StoreRoomUptoSaid : Prop := storeRoomUptoRow.holds Try.pinned (OpenSpec.upto storeRoomSpec)

/-- 'snapferrylaw08.TreapDiffs', WHERE WHAT IT READS IS OF BULK AT MOST 1048576: true; the input reads as it did. -/
def treapDiffsUptoRow : OpenClaim := { program := "ytaohfmmapammcaa", sum := "16c5b62f0f88a12fd2b5b06a934c6a964528ae5523dd4509be10af832513ded5", func := "snapferry/snapferrylaw08.TreapDiffs", spec := "treapDiffs", inPlace := ["internal/abi.NoEscape", "internal/bytealg.MakeNoZero"], unfollowed := true, recurses := true, apart := false, narrowed := true }
def TreapDiffsUptoSaid : Prop := treapDiffsUptoRow.holds Try.pinned (OpenSpec.upto treapDiffsSpec)

end Rows
end Go.Proofs.Ytaohfmmapammcaa
