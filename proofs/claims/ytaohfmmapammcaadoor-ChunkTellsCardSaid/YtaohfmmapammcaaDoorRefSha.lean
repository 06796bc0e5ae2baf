/- What the reference computes of a block, against what digest.press computes; no program in sight. No conditions beside those written out. -/
import Derived.Test.YtaohfmmapammcaaDoorSha
import Derived.Laws.BitsLemmas
import Derived.Lib.EndianBits
set_option linter.unusedSimpArgs false
set_option linter.unusedVariables false
namespace Go.Proofs.YtaohfmmapammcaaDoor.Sha
open Go Go.RowKit Go.Proofs.YtaohfmmapammcaaDoorW.PrintWords Go.Proofs.YtaohfmmapammcaaDoorW.PrintMore

theorem bv_back (v : BitVec 32) : BitVec.ofInt 32 (IntKind.u32.wrap (v.toNat : Int)) = v := by
  have h := v.isLt
  rw [IntKind.wrap_u32, show ((v.toNat : Int) % 4294967296) = ((v.toNat : Nat) : Int) by omega]
  simp [BitVec.ofInt_natCast]
theorem or_comm32 (a b : Int) : Go.bits .or .u32 a b = Go.bits .or .u32 b a := by
  show IntKind.u32.wrap ((BitVec.ofInt 32 a ||| BitVec.ofInt 32 b).toNat : Int) = IntKind.u32.wrap ((BitVec.ofInt 32 b ||| BitVec.ofInt 32 a).toNat : Int)
  rw [BitVec.or_comm]
theorem ch_eq (a b c : Int) : Go.bits .xor .u32 (Go.bits .and .u32 a b) (Go.bits .and .u32 (Go.bits .xor .u32 IntKind.u32.max a) c) = Go.bits .or .u32 (Go.bits .and .u32 a b) (Go.bits .and .u32 (Go.bits .xor .u32 IntKind.u32.max a) c) := by
  have h1 : Go.bits .and .u32 a b = IntKind.u32.wrap ((BitVec.ofInt 32 a &&& BitVec.ofInt 32 b).toNat : Int) := rfl
  have h2 : Go.bits .xor .u32 IntKind.u32.max a = IntKind.u32.wrap ((BitVec.allOnes 32 ^^^ BitVec.ofInt 32 a).toNat : Int) := rfl
  have h3 : Go.bits .and .u32 (Go.bits .xor .u32 IntKind.u32.max a) c = IntKind.u32.wrap ((BitVec.ofInt 32 (Go.bits .xor .u32 IntKind.u32.max a) &&& BitVec.ofInt 32 c).toNat : Int) := rfl
  rw [h3, h2, h1, bv_back]
  generalize BitVec.ofInt 32 a = A
  generalize BitVec.ofInt 32 b = B
  generalize BitVec.ofInt 32 c = C
  show IntKind.u32.wrap ((BitVec.ofInt 32 (IntKind.u32.wrap _) ^^^ BitVec.ofInt 32 (IntKind.u32.wrap _)).toNat : Int) = IntKind.u32.wrap ((BitVec.ofInt 32 (IntKind.u32.wrap _) ||| BitVec.ofInt 32 (IntKind.u32.wrap _)).toNat : Int)
  rw [bv_back, bv_back]
  congr 3
  have hM : ∀ i, i < 32 → (BitVec.allOnes 32).getLsbD i = true := by decide
  generalize BitVec.allOnes 32 = M at hM
  apply BitVec.eq_of_getLsbD_eq
  intro i hi
  have hm := hM i hi
  simp only [BitVec.getLsbD_xor, BitVec.getLsbD_and, BitVec.getLsbD_or, hm]
  cases A.getLsbD i <;> cases B.getLsbD i <;> cases C.getLsbD i <;> rfl

/-- A round's sums as the reference orders them. -/
def rxq (a4 a5 a6 a7 k w : Int) : Int :=
  (a7 + Go.bits .xor .u32 (Go.bits .xor .u32 (rl a4 26) (rl a4 21)) (rl a4 7) + Go.bits .xor .u32 (Go.bits .and .u32 a4 a5) (Go.bits .and .u32 (Go.bits .xor .u32 IntKind.u32.max a4) a6) + k + w) % 4294967296
theorem rxq_eq (a4 a5 a6 a7 k w : Int) : rxq a4 a5 a6 a7 k w = xq a4 a5 a6 a7 k w := by
  unfold rxq xq
  rw [ch_eq]
  congr 1
  omega
/-- The new first word. -/
def ryq (x a0 a1 a2 : Int) : Int :=
  (x + Go.bits .xor .u32 (Go.bits .xor .u32 (rl a0 30) (rl a0 19)) (rl a0 10) + Go.bits .xor .u32 (Go.bits .xor .u32 (Go.bits .and .u32 a0 a1) (Go.bits .and .u32 a0 a2)) (Go.bits .and .u32 a1 a2)) % 4294967296
theorem ryq_eq (x a0 a1 a2 : Int) : ryq x a0 a1 a2 = (x + yq a0 a1 a2) % 4294967296 := by
  unfold ryq yq
  omega
def rwnx (p q r z : Int) : Int := (sg1 q + z + sg0 p + r) % 4294967296
theorem rwnx_eq (p q r z : Int) : rwnx p q r z = wnx p q r z := by
  unfold rwnx wnx
  omega
theorem acc_step (x q : Int) (h0 : 0 ≤ x) (h1 : x < 16777216) (h2 : 0 ≤ q) (h3 : q ≤ 255) : Go.bits .or .u32 ((x * 256) % 4294967296) q = x * 256 + q := by
  rw [show (x * 256) % 4294967296 = x * 256 by omega]
  exact bits_join .u32 32 (by decide) wraps_u32 8 _ _ (by omega) (by omega) (by omega) h2 (by omega) (by omega)
def word4 (b0 b1 b2 b3 : Int) : Int := b0 * 16777216 + b1 * 65536 + b2 * 256 + b3
theorem acc4 (s : ByteArray) (t : Nat) : acc s t 4 = word4 (bAt s (4 * t)) (bAt s (4 * t + 1)) (bAt s (4 * t + 2)) (bAt s (4 * t + 3)) := by
  have r0 := bAt_range s (4 * t)
  have r1 := bAt_range s (4 * t + 1)
  have r2 := bAt_range s (4 * t + 2)
  have r3 := bAt_range s (4 * t + 3)
  show Go.bits .or .u32 (Go.bits .or .u32 (Go.bits .or .u32 (Go.bits .or .u32 (0 * 256 % 4294967296) (bAt s (4 * t)) * 256 % 4294967296) (bAt s (4 * t + 1)) * 256 % 4294967296) (bAt s (4 * t + 2)) * 256 % 4294967296) (bAt s (4 * t + 3)) = _
  generalize bAt s (4 * t) = b0 at *
  generalize bAt s (4 * t + 1) = b1 at *
  generalize bAt s (4 * t + 2) = b2 at *
  generalize bAt s (4 * t + 3) = b3 at *
  rw [acc_step 0 b0 (by omega) (by omega) (by omega) (by omega), acc_step _ b1 (by omega) (by omega) (by omega) (by omega), acc_step _ b2 (by omega) (by omega) (by omega) (by omega), acc_step _ b3 (by omega) (by omega) (by omega) (by omega)]
  unfold word4
  omega
end Go.Proofs.YtaohfmmapammcaaDoor.Sha
