/- A text's bytes as cells. -/
import Derived.Test.YtaohfmmapammcaaDoorSum
set_option linter.unusedSimpArgs false
set_option linter.unusedVariables false
namespace Go.Proofs.YtaohfmmapammcaaDoor.Dig
open Go Go.RowKit Go.Proofs.YtaohfmmapammcaaDoor.Sha
abbrev u8s (l : List UInt8) : List Value := l.map fun b => Value.int .u8 b.toNat
theorem cat_append (a b : List ByteArray) : cat (a ++ b) = cat a ++ cat b := by simp [cat]
theorem cat_mem (xs : List ByteArray) (i : Nat) (x : ByteArray) (h : xs[i]? = some x) : x.size ≤ (cat xs).length := by
  induction xs generalizing i with
  | nil => simp at h
  | cons y ys ih =>
    have he : (cat (y :: ys)).length = y.size + (cat ys).length := by simp [cat, data_size]
    cases i with
    | zero =>
      have : y = x := by simpa using h
      subst this
      omega
    | succ i =>
      have := ih i (by simpa using h)
      omega

end Go.Proofs.YtaohfmmapammcaaDoor.Dig
