/- The callees of digest.Sum: number, constants, strings.Join and strings.Repeat as they are called there. No conditions beside those written out. -/
import Derived.Test.YtioohhekamjljaaPress
import Derived.Test.YtioohhekamjljaaShelf
set_option linter.unusedSimpArgs false
set_option linter.unusedVariables false
namespace Go.Proofs.Ytioohhekamjljaa.Dig
open Go Go.RowKit Go.Proofs.Ytioohhekamjljaa.Sha Go.Proofs.YtioohhekamjljaaW.PrintWords Go.Proofs.YtioohhekamjljaaW.PrintLast Go.Proofs.Ytioohhekamjljaa.PWireTells Go.Proofs.Ytioohhekamjljaa.Reg Go.Proofs.Ytioohhekamjljaa.Ev Go.Proofs.Ytioohhekamjljaa.Press

/-- A text of bytes. -/
abbrev bs (l : List UInt8) : ByteArray := ⟨l.toArray⟩
theorem bs_size (l : List UInt8) : (bs l).size = l.length := by simp [bs, ByteArray.size]
theorem bs_list (l : List UInt8) : (bs l).data.toList = l := rfl
theorem bs_of (s : ByteArray) : bs s.data.toList = s := rfl
theorem bs_append (a b : List UInt8) : bs a ++ bs b = bs (a ++ b) := by
  apply ByteArray.ext
  simp [bs, ByteArray.data_append]

/-- A number's bytes, so many. -/
def numL : Nat → Int → List Int
  | 0, _ => []
  | n + 1, v => numL n (v / 256) ++ [v % 256]
theorem numL_len : ∀ n v, (numL n v).length = n
  | 0, _ => rfl
  | n + 1, v => by simp [numL, numL_len n]
def numB (n : Nat) (v : Int) : List UInt8 := (numL n v).map fun x => UInt8.ofNat x.toNat
theorem numB_len (n : Nat) (v : Int) : (numB n v).length = n := by simp [numB, numL_len]

theorem num_loop : ∀ (m : Nat) (v : Int) (tail : List Int) (k : Nat), m < k → m ≤ 64 → digest_number.l0 k v (List.replicate m 0 ++ tail) ((m : Int) - 1) = some (strOfNums (numL m v ++ tail)) := by
  intro m
  induction m with
  | zero =>
    intro v tail k hk _
    obtain ⟨k, rfl⟩ : ∃ j, k = j + 1 := ⟨k - 1, by omega⟩
    simp only [digest_number.l0]
    rw [if_neg (by omega)]
    simp [numL]
  | succ m ih =>
    intro v tail k hk hm
    obtain ⟨k, rfl⟩ : ∃ j, k = j + 1 := ⟨k - 1, by omega⟩
    simp only [digest_number.l0]
    have hs : (List.replicate (m + 1) (0 : Int) ++ tail).set ((((m + 1 : Nat) : Int) - 1).toNat) (v % 256) = List.replicate m 0 ++ ((v % 256) :: tail) := by
      rw [show (((m + 1 : Nat) : Int) - 1).toNat = m by omega, List.replicate_succ', List.append_assoc, List.set_append, if_neg (by simp)]
      simp
    have hw : wrap64 (((m + 1 : Nat) : Int) - 1 - 1) = (m : Int) - 1 := by unfold wrap64; omega
    rw [if_pos (by omega), if_pos (by omega), if_pos (by simp; omega), hs, hw, ih _ _ _ (by omega) (by omega)]
    simp [numL]

theorem num_any (v : Int) (n : Nat) (hn : n ≤ 64) (w : World) :
    Calls Try.prog 47 #[.int .i64 v, .int .i64 n] w fun e w' => e = .returned (.string (bs (numB n v))) ∧ Below w.heap.size w w' := by
  refine digest_number.calls (n + 1) v n (bs (numB n v)) w ?_
  unfold digest_number.f
  have hw : wrap64 ((n : Int) - 1) = (n : Int) - 1 := by unfold wrap64; omega
  rw [if_pos (by omega), if_pos (by omega), hw]
  have := num_loop n v [] (n + 1) (by omega) hn
  rw [List.append_nil, List.append_nil] at this
  simpa [numB, strOfNums] using this

/-- The rounds' constants. -/
def kT : List Int := [0x428a2f98, 0x71374491, 0xb5c0fbcf, 0xe9b5dba5, 0x3956c25b, 0x59f111f1, 0x923f82a4, 0xab1c5ed5,
  0xd807aa98, 0x12835b01, 0x243185be, 0x550c7dc3, 0x72be5d74, 0x80deb1fe, 0x9bdc06a7, 0xc19bf174,
  0xe49b69c1, 0xefbe4786, 0x0fc19dc6, 0x240ca1cc, 0x2de92c6f, 0x4a7484aa, 0x5cb0a9dc, 0x76f988da,
  0x983e5152, 0xa831c66d, 0xb00327c8, 0xbf597fc7, 0xc6e00bf3, 0xd5a79147, 0x06ca6351, 0x14292967,
  0x27b70a85, 0x2e1b2138, 0x4d2c6dfc, 0x53380d13, 0x650a7354, 0x766a0abb, 0x81c2c92e, 0x92722c85,
  0xa2bfe8a1, 0xa81a664b, 0xc24b8b70, 0xc76c51a3, 0xd192e819, 0xd6990624, 0xf40e3585, 0x106aa070,
  0x19a4c116, 0x1e376c08, 0x2748774c, 0x34b0bcb5, 0x391c0cb3, 0x4ed8aa4a, 0x5b9cca4f, 0x682e6ff3,
  0x748f82ee, 0x78a5636f, 0x84c87814, 0x8cc70208, 0x90befffa, 0xa4506ceb, 0xbef9a3f7, 0xc67178f2]
def hS : List Int := [0x6a09e667, 0xbb67ae85, 0x3c6ef372, 0xa54ff53a, 0x510e527f, 0x9b05688c, 0x1f83d9ab, 0x5be0cd19]

set_option maxHeartbeats 1000000 in
set_option maxRecDepth 100000 in
theorem constants_any (w : World) : Calls Try.prog 48 #[] w fun e w' => e = .returned (.agg (nums .u32 kT).toArray) ∧ Below w.heap.size w w' := by
  go_enter Try.func48, Try.ntmps48
  go_wp2_with (first | ((with_reducible refine gate_dst (N := 0) rfl ?_); refine ev_alloc rfl 114 rfl _ (nums .u32 z64) zero83 rfl ?_; intro gw w1 hgw f1 bw) | ((with_reducible refine gate_store (t := 114) (p := 0) rfl ?_); refine ev_store_row rfl 114 (.tmp 0) (.tmp 1) rfl gw (nums .u32 kT).toArray rfl rfl 114 _ bw size83 rfl (nums_one kT) ?_; intro w2 f2 b2))
  refine bodyPost_ret (v := .agg (nums .u32 kT).toArray) (results_cell_row rfl _ _ gw 114 (nums .u32 kT).toArray (0, 0) _ rfl b2.out Try.underlying114 rfl size83) rfl ⟨rfl, (f1.one f2 (.inr hgw)).below⟩
end Go.Proofs.Ytioohhekamjljaa.Dig
