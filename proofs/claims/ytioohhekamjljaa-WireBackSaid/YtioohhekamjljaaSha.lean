/- What digest.press and the reference compute, in whole numbers and lists; no program in sight. No conditions beside those written out. -/
import Derived.Test.YtioohhekamjljaaWMore
set_option linter.unusedSimpArgs false
set_option linter.unusedVariables false
namespace Go.Proofs.Ytioohhekamjljaa.Sha
open Go Go.RowKit Go.Proofs.YtioohhekamjljaaW.PrintWords Go.Proofs.YtioohhekamjljaaW.PrintMore

/-- A text's byte. -/
def bAt (s : ByteArray) (j : Nat) : Int := ((s.data.toList.getD j 0).toNat : Int)
theorem bAt_range (s : ByteArray) (j : Nat) : 0 ≤ bAt s j ∧ bAt s j ≤ 255 := by
  unfold bAt
  have := (s.data.toList.getD j 0).toNat_lt
  omega
theorem data_size (s : ByteArray) : s.data.toList.length = s.size := by rw [Array.length_toList]; rfl
theorem extract_list (s : ByteArray) (a b : Nat) : (s.extract a b).data.toList = (s.data.toList.drop a).take (b - a) := by
  simp [ByteArray.data_extract, Array.toList_extract]
theorem bAt_extract (s : ByteArray) (a b j : Nat) (h : j < b - a) : bAt (s.extract a b) j = bAt s (a + j) := by
  unfold bAt
  rw [extract_list]
  simp only [List.getD_eq_getElem?_getD, List.getElem?_take, if_pos h, List.getElem?_drop]

def rl (x k : Int) : Int := Go.bits .or .u32 (shl .u32 x k) (shr .u32 x (32 - k))
def sg0 (p : Int) : Int := Go.bits .xor .u32 (Go.bits .xor .u32 (rl p 25) (rl p 14)) (p / 8)
def sg1 (q : Int) : Int := Go.bits .xor .u32 (Go.bits .xor .u32 (rl q 15) (rl q 13)) (q / 1024)
def wnx (p q r z : Int) : Int := ((r + z + sg0 p) % 4294967296 + sg1 q) % 4294967296
def xq (a4 a5 a6 a7 k w : Int) : Int :=
  (a7 + k + w + Go.bits .xor .u32 (Go.bits .xor .u32 (rl a4 26) (rl a4 21)) (rl a4 7) + Go.bits .or .u32 (Go.bits .and .u32 a4 a5) (Go.bits .and .u32 (Go.bits .xor .u32 IntKind.u32.max a4) a6)) % 4294967296
def yq (a0 a1 a2 : Int) : Int :=
  (Go.bits .xor .u32 (Go.bits .xor .u32 (rl a0 30) (rl a0 19)) (rl a0 10) + Go.bits .xor .u32 (Go.bits .xor .u32 (Go.bits .and .u32 a0 a1) (Go.bits .and .u32 a0 a2)) (Go.bits .and .u32 a1 a2)) % 4294967296

/-- A word's bytes, one by one. -/
def acc (s : ByteArray) (t : Nat) : Nat → Int
  | 0 => 0
  | k + 1 => Go.bits .or .u32 ((acc s t k * 256) % 4294967296) (bAt s (4 * t + k))

/-- The first t words. -/
def wsl (s : ByteArray) : Nat → List Int
  | 0 => []
  | t + 1 => wsl s t ++ [if t < 16 then acc s t 4 else wnx ((wsl s t).getD (t - 15) 0) ((wsl s t).getD (t - 2) 0) ((wsl s t).getD (t - 16) 0) ((wsl s t).getD (t - 7) 0)]
theorem wsl_len (s : ByteArray) : ∀ t, (wsl s t).length = t
  | 0 => rfl
  | t + 1 => by rw [wsl, List.length_append, wsl_len s t]; rfl
def wt (s : ByteArray) (t : Nat) : Int := (wsl s (t + 1)).getD t 0
/-- The words' row, those to come nought. -/
def pad (s : ByteArray) (t : Nat) : List Int := wsl s t ++ List.replicate (64 - t) 0
theorem pad_len (s : ByteArray) (t : Nat) (h : t ≤ 64) : (pad s t).length = 64 := by simp [pad, wsl_len]; omega
theorem pad_zero (s : ByteArray) : pad s 0 = List.replicate 64 0 := by simp [pad, wsl]
theorem pad_get (s : ByteArray) (t i : Nat) (h : i < t) : (pad s t).getD i 0 = (wsl s t).getD i 0 := by
  simp [pad, List.getD_eq_getElem?_getD, List.getElem?_append, wsl_len, h]
theorem getD_snoc (l : List Int) (x : Int) (t : Nat) (h : l.length = t) : (l ++ [x]).getD t 0 = x := by
  subst h
  simp [List.getD_eq_getElem?_getD]
theorem wt_eq (s : ByteArray) (t : Nat) : wt s t = (if t < 16 then acc s t 4 else wnx ((wsl s t).getD (t - 15) 0) ((wsl s t).getD (t - 2) 0) ((wsl s t).getD (t - 16) 0) ((wsl s t).getD (t - 7) 0)) :=
  getD_snoc _ _ t (wsl_len s t)
theorem wsl_succ (s : ByteArray) (t : Nat) : wsl s (t + 1) = wsl s t ++ [wt s t] := by rw [wt_eq]; rfl
theorem pad_succ (s : ByteArray) (t : Nat) (h : t < 64) : pad s (t + 1) = (pad s t).set t (wt s t) := by
  obtain ⟨m, hm⟩ : ∃ m, 64 - t = m + 1 := ⟨63 - t, by omega⟩
  unfold pad
  rw [wsl_succ, hm, show 64 - (t + 1) = m by omega, List.set_append, if_neg (by rw [wsl_len]; omega), wsl_len]
  simp [List.replicate_succ]
theorem pad_acc0 (s : ByteArray) (t : Nat) (h : t < 64) : (pad s t).set t (acc s t 0) = pad s t := by
  have hl := pad_len s t (by omega)
  have hg : (pad s t)[t]'(by omega) = 0 := by
    obtain ⟨m, hm⟩ : ∃ m, 64 - t = m + 1 := ⟨63 - t, by omega⟩
    simp [pad, hm, wsl_len]
  have := List.set_getElem_self (as := pad s t) (i := t) (h := by omega)
  rw [hg] at this
  exact this
theorem wt_lo (s : ByteArray) (t : Nat) (h : t < 16) : wt s t = acc s t 4 := by rw [wt_eq, if_pos h]
theorem wt_hi (s : ByteArray) (j : Nat) (h : j + 16 < 64) : wt s (j + 16) = wnx ((pad s (j + 16)).getD (j + 1) 0) ((pad s (j + 16)).getD (j + 14) 0) ((pad s (j + 16)).getD j 0) ((pad s (j + 16)).getD (j + 9) 0) := by
  rw [pad_get _ _ _ (by omega), pad_get _ _ _ (by omega), pad_get _ _ _ (by omega), pad_get _ _ _ (by omega), wt_eq, if_neg (by omega)]
  rfl
theorem pad_at (s : ByteArray) (t : Nat) (h : t < 64) : (pad s (t + 1)).getD t 0 = wt s t := by
  rw [pad_get _ _ _ (by omega)]; rfl

/-- A round. -/
def rnd : List Int → Int → Int → List Int
  | [a0, a1, a2, a3, a4, a5, a6, a7], k, w =>
    [(xq a4 a5 a6 a7 k w + yq a0 a1 a2) % 4294967296, a0, a1, a2, (a3 + xq a4 a5 a6 a7 k w) % 4294967296, a4, a5, a6]
  | l, _, _ => l
def vs (s : ByteArray) (H T : List Int) : Nat → List Int
  | 0 => H
  | t + 1 => rnd (vs s H T t) (T.getD t 0) (wt s t)
theorem len8 {l : List Int} (h : l.length = 8) : ∃ a0 a1 a2 a3 a4 a5 a6 a7, l = [a0, a1, a2, a3, a4, a5, a6, a7] := by
  match l, h with
  | [a0, a1, a2, a3, a4, a5, a6, a7], _ => exact ⟨_, _, _, _, _, _, _, _, rfl⟩
theorem vs_len (s : ByteArray) (H T : List Int) (h : H.length = 8) : ∀ t, (vs s H T t).length = 8
  | 0 => h
  | t + 1 => by
    obtain ⟨a0, a1, a2, a3, a4, a5, a6, a7, e⟩ := len8 (vs_len s H T h t)
    simp [vs, e, rnd]
/-- A block's bytes into a chain. -/
def comp (s : ByteArray) (H T : List Int) : List Int := (List.range 8).map fun i => (H.getD i 0 + (vs s H T 64).getD i 0) % 4294967296
theorem comp_len (s : ByteArray) (H T : List Int) : (comp s H T).length = 8 := by simp [comp]
theorem comp_get (s : ByteArray) (H T : List Int) (i : Nat) (h : i < 8) : (comp s H T).getD i 0 = (H.getD i 0 + (vs s H T 64).getD i 0) % 4294967296 := by
  simp [comp, List.getD_eq_getElem?_getD, h]
/-- The first i of one row, the others of another. -/
def mix (C K : List Int) (i : Nat) : List Int := C.take i ++ K.drop i
theorem mix_zero (C K : List Int) : mix C K 0 = K := by simp [mix]
theorem mix_full (C K : List Int) (n : Nat) (hC : C.length = n) (hK : K.length = n) : mix C K n = C := by
  subst hC
  simp [mix, List.drop_of_length_le (Nat.le_of_eq hK)]
theorem mix_len (C K : List Int) (i n : Nat) (hC : C.length = n) (hK : K.length = n) (h : i ≤ n) : (mix C K i).length = n := by simp [mix]; omega
theorem mix_set (C K : List Int) (i : Nat) (hC : i < C.length) (hK : i < K.length) : (mix C K i).set i (C.getD i 0) = mix C K (i + 1) := by
  unfold mix
  have hl : (C.take i).length = i := by rw [List.length_take]; omega
  rw [List.set_append, if_neg (by omega), hl, Nat.sub_self, List.drop_eq_getElem_cons hK, List.set_cons_zero, List.take_add_one, List.append_assoc]
  simp [List.getD_eq_getElem?_getD, hC]
end Go.Proofs.Ytioohhekamjljaa.Sha
