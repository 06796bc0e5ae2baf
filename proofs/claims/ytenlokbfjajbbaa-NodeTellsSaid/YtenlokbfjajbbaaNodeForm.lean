/- A node's text, and back, as plain data. Plain definitions, no program. -/
import Derived.Test.YtenlokbfjajbbaaNodeDefs
import Derived.Test.YtenlokbfjajbbaaSb
set_option linter.unusedSimpArgs false
set_option linter.unusedVariables false
namespace Go.Proofs.Ytenlokbfjajbbaa.Nd
open Go Go.RowKit Go.Proofs.Ytenlokbfjajbbaa.Ev Go.Proofs.Ytenlokbfjajbbaa.Sb

def b1 (z : Int) : UInt8 := UInt8.ofNat (z % 256).toNat
theorem b1_nat (z : Int) : ((b1 z).toNat : Int) = z % 256 := by
  simp only [b1, UInt8.toNat_ofNat']
  omega
def b4 (z : Int) : List UInt8 := [b1 (z / 16777216), b1 (z / 65536), b1 (z / 256), b1 z]
def printE (e : Ent) : List UInt8 := b1 (e.1.size : Int) :: e.1.data.toList ++ b4 e.2
def printL (N : Nd) : List UInt8 := [b1 N.kind, b1 (N.mode / 256), b1 N.mode] ++ (N.data.data.toList ++ N.target.data.toList) ++ N.ents.flatMap printE
def printN (N : Nd) : ByteArray × Int := if rightB N then (bs (printL N), 0) else (⟨#[]⟩, 2)

def unb4 (l : List UInt8) : Int := ((l.getD 0 0).toNat : Int) * 16777216 + ((l.getD 1 0).toNat : Int) * 65536 + ((l.getD 2 0).toNat : Int) * 256 + ((l.getD 3 0).toNat : Int)
/-- Entries out of bytes; a bound on how many. -/
def parseE : Nat → List UInt8 → Option (List Ent)
  | 0, _ => none
  | _ + 1, [] => some []
  | k + 1, c :: l => if l.length < c.toNat + 4 then none else (parseE k (l.drop (c.toNat + 4))).map fun es => (bs (l.take c.toNat), unb4 (l.drop c.toNat)) :: es
def doneN (N : Nd) : Nd × Int := if rightB N then (N, 0) else (zeroN, 2)
def parseN : List UInt8 → Nd × Int
  | k :: a :: b :: r =>
    if k.toNat = 1 then doneN ⟨1, (a.toNat : Int) * 256 + b.toNat, bs r, ⟨#[]⟩, []⟩
    else if k.toNat = 3 then doneN ⟨3, (a.toNat : Int) * 256 + b.toNat, ⟨#[]⟩, bs r, []⟩
    else match parseE (r.length + 1) r with
      | some es => doneN ⟨k.toNat, (a.toNat : Int) * 256 + b.toNat, ⟨#[]⟩, ⟨#[]⟩, es⟩
      | none => (zeroN, 2)
  | _ => (zeroN, 2)
end Go.Proofs.Ytenlokbfjajbbaa.Nd
