/- A text's name, as digest.Sum computes it; no program in sight. No conditions beside those written out. -/
import Derived.Test.YtioohhekamjljaaDig
set_option linter.unusedSimpArgs false
set_option linter.unusedVariables false
namespace Go.Proofs.Ytioohhekamjljaa.Dig
open Go Go.RowKit Go.Proofs.Ytioohhekamjljaa.Sha

/-- A text with what is put behind it. -/
def padd (l : List UInt8) : List UInt8 := l ++ [128] ++ (List.replicate ((120 - (l.length + 1) % 64) % 64) 0 ++ numB 8 (8 * (l.length : Int)))
theorem padd_len (l : List UInt8) : (padd l).length % 64 = 0 := by
  simp [padd, numB_len]; omega
theorem padd_size (l : List UInt8) : (padd l).length ≤ l.length + 80 := by
  simp [padd, numB_len]; omega

/-- Blocks into a chain, one by one. -/
def chain : Nat → List UInt8 → List Int → List Int
  | 0, _, H => H
  | n + 1, l, H => chain n (l.drop 64) (comp (bs l) H kT)
theorem chain_len : ∀ n l H, H.length = 8 → (chain n l H).length = 8
  | 0, _, _, h => h
  | n + 1, l, H, _ => chain_len n _ _ (comp_len _ _ _)
theorem chain_snoc : ∀ n l H, chain (n + 1) l H = comp (bs (l.drop (64 * n))) (chain n l H) kT
  | 0, l, H => by simp [chain]
  | n + 1, l, H => by
    rw [chain, chain_snoc n (l.drop 64), List.drop_drop, chain]
    congr 3
    omega
/-- A chain's bytes. -/
def outB : List Int → List UInt8
  | [] => []
  | x :: l => numB 4 x ++ outB l
theorem outB_len : ∀ l, (outB l).length = 4 * l.length
  | [] => rfl
  | x :: l => by simp [outB, outB_len l, numB_len]; omega
theorem outB_append : ∀ a b, outB (a ++ b) = outB a ++ outB b
  | [], b => rfl
  | x :: a, b => by simp [outB, outB_append a b]
theorem out_snoc (C : List Int) (i : Nat) (h : i < C.length) : outB (C.take (i + 1)) = outB (C.take i) ++ numB 4 (C.getD i 0) := by
  rw [List.take_add_one, outB_append]
  simp [h, List.getD_eq_getElem?_getD, outB]
theorem hS_range : ∀ i, i < 8 → 0 ≤ hS.getD i 0 ∧ hS.getD i 0 < 4294967296 := by decide +kernel
theorem chain_range (n : Nat) (l : List UInt8) : ∀ i, i < 8 → 0 ≤ (chain n l hS).getD i 0 ∧ (chain n l hS).getD i 0 < 4294967296 := by
  cases n with
  | zero => exact hS_range
  | succ n =>
    intro i hi
    rw [chain_snoc, comp_get _ _ _ i hi]
    omega
/-- A text's name. -/
def sumL (l : List UInt8) : List UInt8 := outB (chain ((padd l).length / 64) (padd l) hS)
theorem hS_len : hS.length = 8 := rfl
theorem kT_len : kT.length = 64 := rfl
theorem sumL_len (l : List UInt8) : (sumL l).length = 32 := by
  rw [sumL, outB_len, chain_len _ _ _ hS_len]
theorem extract_bs (l : List UInt8) (a : Nat) : (bs l).extract a (bs l).size = bs (l.drop a) := by
  apply ByteArray.ext
  apply Array.toList_inj.1
  rw [extract_list, bs_list, bs_list, bs_size, List.take_of_length_le (by simp)]
end Go.Proofs.Ytioohhekamjljaa.Dig
