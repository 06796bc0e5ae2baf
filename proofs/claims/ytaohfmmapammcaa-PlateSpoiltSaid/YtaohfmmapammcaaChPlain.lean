/- What chunk computes, over lists of bytes; no program in sight. No conditions beside those written out. -/
import Derived.Test.YtaohfmmapammcaaShaSum
set_option linter.unusedSimpArgs false
set_option linter.unusedVariables false
namespace Go.Proofs.Ytaohfmmapammcaa.Ch
open Go Go.Proofs.Ytaohfmmapammcaa.Dig

/-- A file's k-th chunk, of size z. -/
def pieceL (z : Nat) (l : List UInt8) (k : Nat) : List UInt8 := (l.drop (z * k)).take z
def cutN (z : Nat) (l : List UInt8) : Nat := (l.length + (z - 1)) / z
def cutZ (z : Nat) (l : List UInt8) : List (List UInt8) := (List.range (cutN z l)).map (pieceL z l)
abbrev cutL (l : List UInt8) : List (List UInt8) := cutZ 16 l
def nameL (c : List UInt8) : List UInt8 := if c.all (· == 0) then [] else sumL c
def namesL (l : List UInt8) : List (List UInt8) := (cutL l).map nameL
def zerosL (n : Int) : List UInt8 := List.replicate n.toNat 0
def fullL (s : List UInt8) (off : Int) : List UInt8 := s ++ zerosL (off - s.length)
def putL (s : List UInt8) (off : Int) (d : List UInt8) : List UInt8 × Int :=
  if off < 0 then ([], 1) else if 4096 < off then ([], 3) else if 4096 - off < (d.length : Int) then ([], 3) else if d = [] then (s, 0)
  else ((fullL s off).take off.toNat ++ d ++ (fullL s off).drop (off.toNat + d.length), 0)
def truncL (s : List UInt8) (size : Int) : List UInt8 × Int :=
  if size < 0 then ([], 1) else if 4096 < size then ([], 3) else ((fullL s size).take size.toNat, 0)
def getL (s : List UInt8) (off n : Int) : List UInt8 × Int :=
  if off < 0 then ([], 1) else if n < 0 then ([], 1) else ((s.drop off.toNat).take n.toNat, 0)
def copyL (s : List UInt8) (off : Int) (src : List UInt8) (fr n : Int) : List UInt8 × Int :=
  if fr < 0 then ([], 1) else if n < 0 then ([], 1) else if (src.length : Int) < fr then ([], 1) else if (src.length : Int) - fr < n then ([], 1)
  else putL s off ((src.drop fr.toNat).take n.toNat)

theorem zerosL_len (n : Int) : (zerosL n).length = n.toNat := by simp [zerosL]
theorem fullL_len (s : List UInt8) (off : Int) : (fullL s off).length = s.length + (off - s.length).toNat := by simp [fullL, zerosL_len]
theorem pieceL_len (z : Nat) (l : List UInt8) (k : Nat) : (pieceL z l k).length = min z (l.length - z * k) := by simp [pieceL]
theorem cutZ_len (z : Nat) (l : List UInt8) : (cutZ z l).length = cutN z l := by simp [cutZ]
theorem cutZ_get (z : Nat) (l : List UInt8) (k : Nat) (h : k < cutN z l) : (cutZ z l)[k]? = some (pieceL z l k) := by
  simp [cutZ, h]
theorem cutN_lt (z : Nat) (hz : 0 < z) (l : List UInt8) (k : Nat) : k < cutN z l ↔ z * k < l.length := by
  unfold cutN
  rw [← Nat.succ_le_iff, Nat.le_div_iff_mul_le hz, Nat.succ_mul, Nat.mul_comm k z]
  omega
theorem nameL_len (c : List UInt8) : (nameL c).length ≤ 32 := by
  unfold nameL
  split
  · simp
  · rw [sumL_len]; omega

/-! The law ChunkPuts. -/
theorem putL_bad {s : List UInt8} {off : Int} {d : List UInt8} (h : (putL s off d).2 ≠ 0) : (putL s off d).1 = [] ∧ (off < 0 ∨ 4096 - (d.length : Int) < off) := by
  unfold putL at h ⊢
  by_cases h1 : off < 0
  · rw [if_pos h1]; exact ⟨rfl, .inl h1⟩
  rw [if_neg h1] at h ⊢
  by_cases h2 : 4096 < off
  · rw [if_pos h2]; exact ⟨rfl, .inr (by omega)⟩
  rw [if_neg h2] at h ⊢
  by_cases h3 : 4096 - off < (d.length : Int)
  · rw [if_pos h3]; exact ⟨rfl, .inr (by omega)⟩
  rw [if_neg h3] at h
  by_cases h4 : d = []
  · rw [if_pos h4] at h; exact absurd rfl h
  · rw [if_neg h4] at h; exact absurd rfl h
/-- What a put file is, byte by byte. -/
structure PutOk (s : List UInt8) (off : Nat) (d t : List UInt8) : Prop where
  len : t.length = if d = [] then s.length else max s.length (off + d.length)
  mid : d ≠ [] → ∀ i, i < d.length → t[off + i]? = d[i]?
  out : ∀ i, i < t.length → (i < off ∨ off + d.length ≤ i) → t[i]? = if i < s.length then s[i]? else some 0
  nil : d = [] → t = s
theorem full_get (s : List UInt8) (off : Int) (i : Nat) (h : i < (fullL s off).length) : (fullL s off)[i]? = if i < s.length then s[i]? else some 0 := by
  rw [fullL_len] at h
  unfold fullL
  by_cases hi : i < s.length
  · rw [if_pos hi, List.getElem?_append_left hi]
  · rw [if_neg hi, List.getElem?_append_right (by omega), zerosL, List.getElem?_replicate, if_pos (by omega)]
theorem putL_ok {s : List UInt8} {off : Int} {d : List UInt8} (h : (putL s off d).2 = 0) : 0 ≤ off ∧ off ≤ 4096 - (d.length : Int) ∧ PutOk s off.toNat d (putL s off d).1 := by
  unfold putL at h ⊢
  by_cases h1 : off < 0
  · rw [if_pos h1] at h; cases h
  rw [if_neg h1] at h ⊢
  by_cases h2 : 4096 < off
  · rw [if_pos h2] at h; cases h
  rw [if_neg h2] at h ⊢
  by_cases h3 : 4096 - off < (d.length : Int)
  · rw [if_pos h3] at h; cases h
  rw [if_neg h3] at h ⊢
  refine ⟨by omega, by omega, ?_⟩
  by_cases h4 : d = []
  · rw [if_pos h4]
    refine ⟨by rw [if_pos h4], fun h => absurd h4 h, fun i hi _ => ?_, fun _ => rfl⟩
    rw [if_pos hi]
  · rw [if_neg h4]
    obtain ⟨o, rfl⟩ := Int.eq_ofNat_of_zero_le (by omega : 0 ≤ off)
    have hfl : (fullL s (o : Int)).length = max s.length o := by rw [fullL_len]; omega
    have htl : ((fullL s (o : Int)).take o).length = o := by rw [List.length_take, hfl]; omega
    have hto : (Int.toNat (o : Int)) = o := rfl
    simp only [hto]
    have hlen : ((fullL s (o : Int)).take o ++ d ++ (fullL s (o : Int)).drop (o + d.length)).length = max s.length (o + d.length) := by
      rw [List.length_append, List.length_append, htl, List.length_drop, hfl]; omega
    have hd0 : 0 < d.length := List.length_pos_iff.2 h4
    refine ⟨by rw [if_neg h4, hlen], fun _ i hi => ?_, fun i hi ho => ?_, fun h => absurd h h4⟩
    · rw [List.append_assoc, List.getElem?_append_right (by omega), htl, List.getElem?_append_left (by omega)]
      congr 1; omega
    · rw [hlen] at hi
      rcases ho with ho | ho
      · rw [List.append_assoc, List.getElem?_append_left (by omega), List.getElem?_take_of_lt ho, full_get _ _ _ (by rw [hfl]; omega)]
      · rw [List.getElem?_append_right (by rw [List.length_append, htl]; omega), List.length_append, htl, List.getElem?_drop]
        rw [show o + d.length + (i - (o + d.length)) = i by omega, full_get _ _ _ (by rw [hfl]; omega)]
theorem put_get {s : List UInt8} {off : Int} {d : List UInt8} (h : (putL s off d).2 = 0) : getL (putL s off d).1 off d.length = (d, 0) := by
  obtain ⟨h0, h1, k⟩ := putL_ok h
  unfold getL
  rw [if_neg (by omega), if_neg (by omega)]
  congr 1
  by_cases hd : d = []
  · subst hd; simp
  · have hl := k.len
    rw [if_neg hd] at hl
    apply List.ext_getElem?
    intro i
    by_cases hi : i < d.length
    · rw [List.getElem?_take_of_lt (by simpa using hi), List.getElem?_drop, k.mid hd i hi]
    · rw [List.getElem?_eq_none (by simp; omega), List.getElem?_eq_none (by omega)]
theorem trunc_self {t : List UInt8} (h : t.length ≤ 4096) : truncL t t.length = (t, 0) := by
  unfold truncL
  rw [if_neg (by omega), if_neg (by omega)]
  simp [fullL, zerosL]

/-! The law ChunkCuts. -/
theorem trunc_ok {s : List UInt8} {size : Int} (h0 : 0 ≤ size) (h1 : size ≤ 4096) : (truncL s size).2 = 0 ∧ (truncL s size).1.length = size.toNat ∧ ∀ i, i < size.toNat → (truncL s size).1[i]? = if i < s.length then s[i]? else some 0 := by
  unfold truncL
  rw [if_neg (by omega), if_neg (by omega)]
  obtain ⟨o, rfl⟩ := Int.eq_ofNat_of_zero_le h0
  have hfl : (fullL s (o : Int)).length = max s.length o := by rw [fullL_len]; omega
  have hto : (Int.toNat (o : Int)) = o := rfl
  refine ⟨rfl, by rw [List.length_take, hfl, hto]; omega, fun i hi => ?_⟩
  rw [hto] at hi ⊢
  simp only
  rw [List.getElem?_take_of_lt hi, full_get _ _ _ (by rw [hfl]; omega)]
theorem copy_self {s : List UInt8} (h : s.length ≤ 4096) : copyL [] 0 s 0 s.length = (s, 0) := by
  unfold copyL
  rw [if_neg (by omega), if_neg (by omega), if_neg (by omega), if_neg (by omega)]
  unfold putL
  simp only [Int.toNat_zero, List.drop_zero, Int.toNat_natCast, List.take_length]
  rw [if_neg (by omega), if_neg (by omega), if_neg (by omega)]
  by_cases hs : s = []
  · rw [if_pos hs, hs]
  · rw [if_neg hs]
    simp [fullL, zerosL]
end Go.Proofs.Ytaohfmmapammcaa.Ch
