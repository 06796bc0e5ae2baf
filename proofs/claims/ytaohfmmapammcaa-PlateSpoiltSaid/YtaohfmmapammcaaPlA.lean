/- Texts joined by merge.py: PlPlain, PlDisk, PlLast, PlFlush. -/
import Derived.Test.YtaohfmmapammcaaShaSum
import Derived.Test.YtaohfmmapammcaaChPlain
import Derived.Test.YtaohfmmapammcaaMapF
import Derived.Test.YtaohfmmapammcaaEv3
import Derived.Test.YtaohfmmapammcaaReg
/- A disk of sectors and a plate on it, over lists of bytes; no program in sight. No conditions beside those written out. -/
set_option linter.unusedSimpArgs false
set_option linter.unusedVariables false
namespace Go.Proofs.Ytaohfmmapammcaa.Pl
open Go Go.Proofs.Ytaohfmmapammcaa.Dig Go.Proofs.Ytaohfmmapammcaa.Ch

abbrev B := List UInt8
/-- A disk's state: what lasts, what waits, the cut (of which nothing is kept), the effects so far, the power. -/
structure DiskS where
  size : Nat
  lasts : Int → Option B
  wait : List (Int × B)
  cutAt : Int
  count : Int
  down : Bool
def padL (d : B) : B := d ++ List.replicate (32 - d.length) 0
theorem padL_len (d : B) (h : d.length ≤ 32) : (padL d).length = 32 := by simp [padL]; omega
def zero32 : B := List.replicate 32 0
def newD (n : Nat) : DiskS := ⟨n, fun _ => none, [], 0, 0, false⟩
def put1 (f : Int → Option B) (x : Int × B) : Int → Option B := fun a => if a = x.1 then some x.2 else f a
def lastD (D : DiskS) : DiskS := { D with lasts := D.wait.foldl put1 D.lasts, wait := [] }
def crashD (D : DiskS) : DiskS := if D.down then D else { D with wait := [], cutAt := 0, down := true }
def countD (D : DiskS) : DiskS := { D with count := D.count + 1 }
def failD (D : DiskS) : DiskS := if D.cutAt = D.count + 1 then crashD (countD D) else countD D
def failB (D : DiskS) : Bool := decide (D.cutAt = D.count + 1)
def askedD (D : DiskS) (a : Int) : Int := if D.down then 7 else if a < 0 then 1 else if (D.size : Int) ≤ a then 1 else 0
def waitD (D : DiskS) (a : Int) (d : B) : DiskS := { D with wait := D.wait ++ [(a, padL d)] }
def writeD (D : DiskS) (a : Int) (d : B) : DiskS × Int :=
  if askedD D a ≠ 0 then (D, askedD D a) else if 32 < d.length then (D, 3) else (failD (waitD D a d), if failB D then 7 else 0)
def flushD (D : DiskS) : DiskS × Int := if D.down then (D, 7) else if failB D then (failD D, 7) else (lastD (failD D), 0)
def armD (D : DiskS) (a : Int) : DiskS := { D with cutAt := if a < 1 then 0 else a, count := 0 }
def startD (D : DiskS) : DiskS := { D with down := false }
/-- What a sector holds. -/
def secF (f : Int → Option B) (a : Int) : B := (f a).getD zero32
/-- What Read finds at a sector that may be asked. -/
def foundD (D : DiskS) (a : Int) : B :=
  match D.wait.reverse.find? (fun x => x.1 == a) with
  | some x => x.2
  | none => secF D.lasts a
def readD (D : DiskS) (a : Int) : B × Int := if askedD D a ≠ 0 then ([], askedD D a) else (foundD D a, 0)

/-- A disk that is on, without a cut, nothing of it waiting. -/
structure OkD (D : DiskS) : Prop where
  up : D.down = false
  cut : D.cutAt = 0
  quiet : D.wait = []
  cnt : 0 ≤ D.count
  full : ∀ a s, D.lasts a = some s → s.length = 32
theorem secF_len {f : Int → Option B} (h : ∀ a s, f a = some s → s.length = 32) (a : Int) : (secF f a).length = 32 := by
  unfold secF
  cases hf : f a with
  | none => rfl
  | some s => exact h a s hf
theorem newD_ok (n : Nat) : OkD (newD n) := ⟨rfl, rfl, rfl, Int.le_refl _, fun _ _ h => by cases h⟩
theorem OkD.asked {D : DiskS} (h : OkD D) (a : Int) (h0 : 0 ≤ a) (h1 : a < D.size) : askedD D a = 0 := by
  unfold askedD
  rw [h.up, if_neg (by decide), if_neg (by omega), if_neg (by omega)]
theorem OkD.found {D : DiskS} (h : OkD D) (a : Int) : foundD D a = secF D.lasts a := by
  unfold foundD
  rw [h.quiet]; rfl

/-! A half's bytes. -/
def halfL (f : Int → Option B) (half side : Nat) : B := (List.range half).flatMap fun i => secF f ((side * half + i : Nat) : Int)
theorem halfL_len {f : Int → Option B} (h : ∀ a s, f a = some s → s.length = 32) (half side : Nat) : (halfL f half side).length = 32 * half := by
  unfold halfL
  generalize side * half = o
  induction half with
  | zero => rfl
  | succ n ih =>
    rw [List.range_succ, List.flatMap_append, List.length_append, ih]
    simp [secF_len h]; omega
theorem halfL_congr {f g : Int → Option B} {half side : Nat} (h : ∀ i, i < half → f ((side * half + i : Nat) : Int) = g ((side * half + i : Nat) : Int)) : halfL f half side = halfL g half side := by
  unfold halfL
  rw [List.flatMap_def, List.flatMap_def]
  congr 1
  apply List.map_congr_left
  intro i hi
  unfold secF
  rw [h i (List.mem_range.1 hi)]

/-! A text's bytes on a plate. -/
def bodyL (n : Int) (s : B) : B := numB 4 n ++ numB 4 s.length ++ s
def toldL (n : Int) (s : B) : B := bodyL n s ++ sumL (bodyL n s)
theorem bodyL_len (n : Int) (s : B) : (bodyL n s).length = s.length + 8 := by simp [bodyL, numB_len]; omega
theorem toldL_len (n : Int) (s : B) : (toldL n s).length = s.length + 40 := by simp [toldL, bodyL_len, sumL_len]
def numberL (l : B) : Int := l.foldl (fun n c => n * 256 + c.toNat) 0
theorem number_snoc (l : B) (c : UInt8) : numberL (l ++ [c]) = numberL l * 256 + c.toNat := by simp [numberL]
theorem number_fold : ∀ (l : B) (n : Int), 0 ≤ n → 0 ≤ l.foldl (fun (n : Int) (c : UInt8) => n * 256 + c.toNat) n ∧ l.foldl (fun (n : Int) (c : UInt8) => n * 256 + c.toNat) n < (n + 1) * ((256 ^ l.length : Nat) : Int)
  | [], n, h => by simp; omega
  | c :: l, n, h => by
    have hc := c.toNat_lt
    obtain ⟨h1, h2⟩ := number_fold l (n * 256 + c.toNat) (by omega)
    refine ⟨h1, Int.lt_of_lt_of_le h2 ?_⟩
    rw [List.length_cons, Nat.pow_succ, Int.natCast_mul, Int.mul_comm (((256 ^ l.length : Nat) : Int)), ← Int.mul_assoc]
    exact Int.mul_le_mul_of_nonneg_right (by omega) (Int.natCast_nonneg _)
theorem number_range (l : B) : 0 ≤ numberL l ∧ numberL l < ((256 ^ l.length : Nat) : Int) := by
  have := number_fold l 0 (Int.le_refl _)
  unfold numberL
  omega
theorem number_small (l : B) (h : l.length ≤ 4) : numberL l < 4294967296 := by
  have h1 := (number_range l).2
  have h2 : 256 ^ l.length ≤ 256 ^ 4 := Nat.pow_le_pow_right (by decide) h
  have h3 : 256 ^ 4 = 4294967296 := by decide
  omega
theorem numB_succ (n : Nat) (v : Int) : numB (n + 1) v = numB n (v / 256) ++ [UInt8.ofNat (v % 256).toNat] := by simp [numB, numL]
theorem number_num : ∀ (n : Nat) (v : Int), 0 ≤ v → v < ((256 ^ n : Nat) : Int) → numberL (numB n v) = v
  | 0, v, h0, h1 => by
    have : v = 0 := by simp at h1; omega
    subst this; rfl
  | n + 1, v, h0, h1 => by
    rw [Nat.pow_succ] at h1
    rw [numB_succ, number_snoc, number_num n (v / 256) (by omega) (by omega)]
    have : (UInt8.ofNat (v % 256).toNat).toNat = (v % 256).toNat := by
      show (v % 256).toNat % 2 ^ 8 = _
      exact Nat.mod_eq_of_lt (by omega)
    rw [this]
    omega
/-- What read tells of a half's bytes. -/
def sizeL (h : B) : Int := numberL ((h.drop 4).take 4)
def readL (h : B) (half : Nat) : Int × B :=
  if (half : Int) * 32 - 40 < sizeL h then (0, []) else if h.take (sizeL h + 40).toNat ≠ toldL (numberL (h.take 4)) ((h.drop 8).take (sizeL h).toNat) then (0, [])
  else (numberL (h.take 4), (h.drop 8).take (sizeL h).toNat)
theorem readL_range (h : B) (half : Nat) : 0 ≤ (readL h half).1 ∧ (readL h half).1 < 4294967296 := by
  have h1 := number_range (h.take 4)
  have h2 := number_small (h.take 4) (List.length_take_le _ _)
  have z : (0 : Int) ≤ 0 ∧ (0 : Int) < 4294967296 := by decide
  unfold readL
  split
  · exact z
  · split
    · exact z
    · exact ⟨h1.1, h2⟩
theorem told_split (n : Int) (s r : B) : toldL n s ++ r = numB 4 n ++ (numB 4 s.length ++ (s ++ (sumL (bodyL n s) ++ r))) := by
  simp [toldL, bodyL]
theorem read_told (n : Int) (s r : B) (half : Nat) (h0 : 0 ≤ n) (h1 : n < 4294967296) (h2 : s.length + 40 ≤ half * 32) (h3 : s.length < 4294967296) : readL (toldL n s ++ r) half = (n, s) := by
  have e1 : (toldL n s ++ r).take 4 = numB 4 n := by
    rw [told_split, List.take_left' (numB_len _ _)]
  have e2 : (toldL n s ++ r).drop 4 = numB 4 s.length ++ (s ++ (sumL (bodyL n s) ++ r)) := by
    rw [told_split, List.drop_left' (numB_len _ _)]
  have e3 : (toldL n s ++ r).drop 8 = s ++ (sumL (bodyL n s) ++ r) := by
    rw [show 8 = 4 + 4 from rfl, ← List.drop_drop, e2, List.drop_left' (numB_len _ _)]
  have p4 : ((256 ^ 4 : Nat) : Int) = 4294967296 := by decide
  have e4 : sizeL (toldL n s ++ r) = s.length := by
    unfold sizeL
    rw [e2, List.take_left' (numB_len _ _), number_num 4 _ (by omega) (by rw [p4]; omega)]
  unfold readL
  rw [e4, if_neg (by omega), e1, e3, number_num 4 n h0 (by rw [p4]; exact h1), Int.toNat_natCast, List.take_left' rfl, if_neg]
  intro hh
  apply hh
  rw [List.take_left' (by rw [toldL_len]; omega)]
/-- A number that is told is borne out by the half's bytes. -/
theorem read_bears (h : B) (half : Nat) (hp : 0 < (readL h half).1) : h.take ((readL h half).2.length + 40) = toldL (readL h half).1 (readL h half).2 ∧ sizeL h ≤ (half : Int) * 32 - 40 := by
  unfold readL at hp ⊢
  by_cases c1 : (half : Int) * 32 - 40 < sizeL h
  · rw [if_pos c1] at hp; exact absurd hp (by decide)
  rw [if_neg c1] at hp ⊢
  by_cases c2 : h.take (sizeL h + 40).toNat ≠ toldL (numberL (h.take 4)) ((h.drop 8).take (sizeL h).toNat)
  · rw [if_pos c2] at hp; exact absurd hp (by decide)
  rw [if_neg c2]
  have c3 := Classical.not_not.1 c2
  refine ⟨?_, by omega⟩
  show h.take (((h.drop 8).take (sizeL h).toNat).length + 40) = _
  have hl := congrArg List.length c3
  rw [toldL_len] at hl
  have hs : 0 ≤ sizeL h := (number_range _).1
  rw [List.length_take] at hl
  have hl2 : ((h.drop 8).take (sizeL h).toNat).length ≤ (sizeL h).toNat := List.length_take_le _ _
  have e : h.take (((h.drop 8).take (sizeL h).toNat).length + 40) = h.take (sizeL h + 40).toNat := by
    rw [← hl]
    rcases Nat.le_total (sizeL h + 40).toNat h.length with hh | hh
    · rw [Nat.min_eq_left hh]
    · rw [Nat.min_eq_right hh, List.take_of_length_le (Nat.le_refl _), List.take_of_length_le hh]
  rw [e, c3]

/-! Writing a plate's text: part by part. -/
def putD (st : DiskS × Int) (f : DiskS → DiskS × Int) : DiskS × Int := if st.2 = 0 then f st.1 else st
/-- One part more, those behind it written. -/
def partD (o : Int) (b : B) (k : Nat) (i : Nat) (st : DiskS × Int) : DiskS × Int :=
  putD (if i = 0 ∧ 1 < k then putD st flushD else st) (fun D => writeD D (o + i) (pieceL 32 b i))
def partsD (o : Int) (b : B) (k : Nat) : Nat → DiskS × Int → DiskS × Int
  | 0, st => st
  | i + 1, st => partsD o b k i (partD o b k i st)
def writeAll (D : DiskS) (o : Int) (b : B) : DiskS × Int :=
  putD (partsD o b (cutN 32 b) (cutN 32 b) (putD (writeD D o []) flushD)) flushD

/-- A text's parts in their sectors. -/
def storeF (f : Int → Option B) (o : Int) (b : B) (j k : Nat) : Int → Option B := fun a => if o + j ≤ a ∧ a < o + k then some (padL (pieceL 32 b (a - o).toNat)) else f a
theorem OkD.fail {D : DiskS} (h1 : D.cutAt = 0) (h2 : 0 ≤ D.count) : failD D = countD D ∧ failB D = false := by
  unfold failD failB
  have h3 : ¬ D.cutAt = D.count + 1 := by omega
  exact ⟨by rw [if_neg h3], by simpa using h3⟩
theorem write_ok {D : DiskS} (hu : D.down = false) (hc : D.cutAt = 0) (hn : 0 ≤ D.count) (a : Int) (d : B) (h0 : 0 ≤ a) (h1 : a < D.size) (hd : d.length ≤ 32) : writeD D a d = (countD (waitD D a d), 0) := by
  have h2 : askedD D a = 0 := by
    unfold askedD
    rw [hu, if_neg (by decide), if_neg (by omega), if_neg (by omega)]
  unfold writeD
  rw [h2, if_neg (by omega), if_neg (by omega), (OkD.fail (D := D) hc hn).2, (OkD.fail (D := waitD D a d) hc hn).1]
  rfl
theorem flush_ok {D : DiskS} (hu : D.down = false) (hc : D.cutAt = 0) (hn : 0 ≤ D.count) : flushD D = (lastD (countD D), 0) := by
  unfold flushD
  rw [hu, (OkD.fail hc hn).2, (OkD.fail hc hn).1]
  rfl
theorem pieceL32 (b : B) (i : Nat) : (pieceL 32 b i).length ≤ 32 := by rw [pieceL_len]; omega
/-- The parts from k - 1 down to j wait. -/
def listW (o : Int) (b : B) (j k : Nat) : List (Int × B) := (List.range' j (k - j)).reverse.map fun (i : Nat) => (o + (i : Int), padL (pieceL 32 b i))
theorem listW_snoc (o : Int) (b : B) (j k : Nat) (h : j < k) : listW o b j k = listW o b (j + 1) k ++ [(o + (j : Int), padL (pieceL 32 b j))] := by
  unfold listW
  rw [show k - j = (k - (j + 1)) + 1 by omega, List.range'_succ]
  simp
theorem fold_listW (f : Int → Option B) (o : Int) (b : B) (k : Nat) : ∀ (m j : Nat), j + m = k → (listW o b j k).foldl put1 f = storeF f o b j k
  | 0, j, h => by
    funext a
    have : listW o b j k = [] := by simp [listW]; omega
    rw [this]
    unfold storeF
    rw [if_neg (by omega)]; rfl
  | m + 1, j, h => by
    rw [listW_snoc o b j k (by omega), List.foldl_append, fold_listW f o b k m (j + 1) (by omega)]
    funext a
    show put1 _ _ a = _
    unfold put1 storeF
    by_cases e : a = o + (j : Int)
    · subst e
      rw [if_pos rfl, if_pos (by omega), show (o + (j : Int) - o).toNat = j by omega]
    · rw [if_neg e]
      by_cases c : o + ((j + 1 : Nat) : Int) ≤ a ∧ a < o + (k : Int)
      · rw [if_pos c, if_pos (by omega)]
      · rw [if_neg c, if_neg (by omega)]
theorem putD_0 (D : DiskS) (f : DiskS → DiskS × Int) : putD (D, 0) f = f D := if_pos rfl
theorem putD_no {e : Int} (D : DiskS) (f : DiskS → DiskS × Int) (h : e ≠ 0) : putD (D, e) f = (D, e) := if_neg h
theorem parts_ok (o : Int) (b : B) (k : Nat) (D : DiskS) (f : Int → Option B) (hu : D.down = false) (hc : D.cutAt = 0) (hn : 0 ≤ D.count) (ho : 0 ≤ o) (hk : o + k ≤ D.size) (h2 : 1 < k) (hf : D.lasts = f) :
    ∀ (j : Nat), 0 < j → j ≤ k → ∀ (c : Int), c = D.count + (k - j : Nat) → partsD o b k j ({ D with wait := listW o b j k, count := c }, 0) = ({ D with wait := [(o, padL (pieceL 32 b 0))], lasts := storeF f o b 1 k, count := D.count + k + 1 }, 0)
  | 0, h, _, _, _ => absurd h (by omega)
  | 1, _, hj, c, hcc => by
    subst hf
    show partD o b k 0 _ = _
    have hc0 : 0 ≤ c := by omega
    unfold partD
    rw [if_pos ⟨rfl, h2⟩, putD_0, flush_ok (D := { D with wait := listW o b 1 k, count := c }) hu hc hc0, putD_0]
    show writeD _ _ _ = _
    rw [write_ok (D := lastD (countD { D with wait := listW o b 1 k, count := c })) hu hc (by show 0 ≤ c + 1; omega) _ _ (by simpa using ho) (by simp [lastD, countD]; omega) (pieceL32 _ _)]
    simp only [countD, waitD, lastD, fold_listW D.lasts o b k (k - 1) 1 (by omega), List.nil_append, Prod.mk.injEq, DiskS.mk.injEq, true_and, and_true]
    refine ⟨by simp, ?_⟩
    omega
  | j + 2, _, hj, c, hcc => by
    show partsD o b k (j + 1) (partD o b k (j + 1) _) = _
    have hc0 : 0 ≤ c := by omega
    have e : partD o b k (j + 1) ({ D with wait := listW o b (j + 2) k, count := c }, 0) = ({ D with wait := listW o b (j + 1) k, count := c + 1 }, 0) := by
      unfold partD
      rw [if_neg (by omega), putD_0]
      show writeD _ _ _ = _
      rw [write_ok (D := { D with wait := listW o b (j + 2) k, count := c }) hu hc hc0 _ _ (by omega) (by show o + ((j + 1 : Nat) : Int) < (D.size : Int); omega) (pieceL32 _ _), listW_snoc o b (j + 1) k (by omega)]
      rfl
    rw [e]
    exact parts_ok o b k D f hu hc hn ho hk h2 hf (j + 1) (by omega) (by omega) (c + 1) (by omega)
theorem pad_nil : padL [] = zero32 := rfl
/-- A text of two parts at least, written to a disk that is well. -/
theorem writeAll_ok {D : DiskS} (h : OkD D) (o : Int) (b : B) (ho : 0 ≤ o) (hb : 32 < b.length) (hk : o + (cutN 32 b : Int) ≤ D.size) :
    writeAll D o b = ({ D with lasts := storeF D.lasts o b 0 (cutN 32 b), count := D.count + cutN 32 b + 4 }, 0) := by
  have h2 : 1 < cutN 32 b := (cutN_lt 32 (by decide) b 1).2 (by omega)
  obtain ⟨k, hkk⟩ : ∃ k, k = cutN 32 b := ⟨_, rfl⟩
  rw [← hkk] at hk h2 ⊢
  unfold writeAll
  rw [← hkk, write_ok h.up h.cut h.cnt o [] ho (by omega) (by simp)]
  have e1 : putD (countD (waitD D o []), 0) flushD = (lastD (countD (countD (waitD D o []))), 0) := by
    rw [putD_0, flush_ok (D := countD (waitD D o [])) h.up h.cut (by show 0 ≤ D.count + 1; have := h.cnt; omega)]
  rw [e1]
  have e2 : (lastD (countD (countD (waitD D o [])))) = { ({ D with lasts := put1 D.lasts (o, padL []), count := D.count + 2 } : DiskS) with wait := listW o b k k, count := D.count + 2 } := by
    have : listW o b k k = [] := by simp [listW]
    rw [this]
    simp only [lastD, countD, waitD, h.quiet, List.nil_append, List.foldl_cons, List.foldl_nil, DiskS.mk.injEq, true_and, and_true]
    omega
  rw [e2, parts_ok o b k { D with lasts := put1 D.lasts (o, padL []), count := D.count + 2 } _ h.up h.cut (by show 0 ≤ D.count + 2; have := h.cnt; omega) ho hk h2 rfl k (by omega) (Nat.le_refl _) _ (by show D.count + 2 = _; simp)]
  have fin : ∀ D2 : DiskS, D2.down = false → D2.cutAt = 0 → 0 ≤ D2.count → putD (D2, 0) flushD = (lastD (countD D2), 0) := fun D2 a b c => by rw [putD_0, flush_ok a b c]
  refine Eq.trans (fin _ ?_ ?_ ?_) ?_
  · exact h.up
  · exact h.cut
  · show 0 ≤ D.count + 2 + k + 1; have := h.cnt; omega
  simp only [lastD, countD, List.foldl_cons, List.foldl_nil, Prod.mk.injEq, DiskS.mk.injEq, true_and, and_true, h.quiet]
  refine ⟨?_, by omega⟩
  funext a
  unfold put1 storeF
  simp only
  by_cases e : a = o
  · subst e
    rw [if_pos rfl, if_pos (by omega)]
    simp
  · rw [if_neg e]
    by_cases c : o + ((1 : Nat) : Int) ≤ a ∧ a < o + (k : Int)
    · rw [if_pos c, if_pos (by omega)]
    · rw [if_neg c, if_neg e, if_neg (by omega)]

/-- What was written lies at the half's beginning. -/
theorem parts_flat : ∀ (m : Nat) (b : B) (x : Nat → B), b.length ≤ 32 * m → ∃ r, ((List.range m).flatMap fun i => if 32 * i < b.length then padL (pieceL 32 b i) else x i) = b ++ r
  | 0, b, x, h => ⟨[], by have : b = [] := List.eq_nil_of_length_eq_zero (by omega); subst this; rfl⟩
  | m + 1, b, x, h => by
    rw [List.range_succ_eq_map, List.flatMap_cons]
    by_cases h0 : b = []
    · subst h0; exact ⟨_, rfl⟩
    have hp : 0 < b.length := List.length_pos_iff.2 h0
    rw [if_pos (by omega)]
    have e0 : pieceL 32 b 0 = b.take 32 := by simp [pieceL]
    rw [e0]
    by_cases h1 : b.length ≤ 32
    · rw [List.take_of_length_le h1]
      unfold padL
      exact ⟨_, by rw [List.append_assoc]⟩
    · obtain ⟨r, hr⟩ := parts_flat m (b.drop 32) (fun i => x (i + 1)) (by simp; omega)
      refine ⟨r, ?_⟩
      have ep : padL (b.take 32) = b.take 32 := by
        unfold padL
        rw [List.length_take, Nat.min_eq_left (by omega)]; simp
      rw [ep, List.flatMap_map]
      have : (fun i => if 32 * (Nat.succ i) < b.length then padL (pieceL 32 b (Nat.succ i)) else x (Nat.succ i)) = fun i => if 32 * i < (b.drop 32).length then padL (pieceL 32 (b.drop 32) i) else x (i + 1) := by
        funext i
        have e3 : pieceL 32 b (Nat.succ i) = pieceL 32 (b.drop 32) i := by
          unfold pieceL
          rw [List.drop_drop]
          congr 2
          omega
        rw [e3, List.length_drop]
        by_cases c : 32 * i < b.length - 32
        · rw [if_pos (by omega), if_pos c]
        · rw [if_neg (by omega), if_neg c]
      rw [this, hr, ← List.append_assoc, List.take_append_drop]
theorem half_store (f : Int → Option B) (half side : Nat) (b : B) (hb : b.length ≤ 32 * half) : ∃ r, halfL (storeF f ((side * half : Nat) : Int) b 0 (cutN 32 b)) half side = b ++ r := by
  obtain ⟨r, hr⟩ := parts_flat half b (fun i => secF f ((side * half + i : Nat) : Int)) hb
  refine ⟨r, ?_⟩
  rw [← hr]
  unfold halfL
  rw [List.flatMap_def, List.flatMap_def]
  congr 1
  apply List.map_congr_left
  intro i hi
  have := cutN_lt 32 (by decide) b i
  unfold secF storeF
  by_cases c : 32 * i < b.length
  · have c2 := this.2 c
    rw [if_pos c, if_pos (by omega), show ((((side * half + i : Nat) : Int)) - ((side * half : Nat) : Int)).toNat = i by omega]
    rfl
  · have c2 : ¬ i < cutN 32 b := fun h => c (this.1 h)
    rw [if_neg c, if_neg (by omega)]
theorem half_other (f : Int → Option B) (half side : Nat) (b : B) (hb : b.length ≤ 32 * half) (hs : side ≤ 1) : halfL (storeF f ((side * half : Nat) : Int) b 0 (cutN 32 b)) half (1 - side) = halfL f half (1 - side) := by
  refine halfL_congr fun i hi => ?_
  have hk : cutN 32 b ≤ half := by
    rcases Nat.lt_or_ge half (cutN 32 b) with h | h
    · have := (cutN_lt 32 (by decide) b half).1 h; omega
    · exact h
  unfold storeF
  rw [if_neg]
  rcases (by omega : side = 0 ∨ side = 1) with rfl | rfl
  · simp; omega
  · simp; omega
theorem store_full {f : Int → Option B} (h : ∀ a s, f a = some s → s.length = 32) (o : Int) (b : B) (j k : Nat) : ∀ a s, storeF f o b j k a = some s → s.length = 32 := by
  intro a s hs
  unfold storeF at hs
  by_cases c : o + (j : Int) ≤ a ∧ a < o + (k : Int)
  · rw [if_pos c] at hs
    cases hs
    exact padL_len _ (pieceL32 _ _)
  · rw [if_neg c] at hs
    exact h a s hs

/-! A plate. -/
structure PlateS where
  half : Nat
  side : Nat
  number : Int
  text : B
def openL (half : Nat) (r0 r1 : Int × B) : PlateS :=
  let p : PlateS := if 0 < r0.1 then ⟨half, 0, r0.1, r0.2⟩ else ⟨half, 0, 0, []⟩
  if p.number < r1.1 then ⟨half, 1, r1.1, r1.2⟩ else p
def openP (f : Int → Option B) (half : Nat) : PlateS := openL half (readL (halfL f half 0) half) (readL (halfL f half 1) half)
/-- The plate tells what its side bears, and no half bears a higher number. -/
structure Tells (f : Int → Option B) (p : PlateS) : Prop where
  side : p.side ≤ 1
  pos : 0 ≤ p.number
  nil : p.number = 0 → p.text = []
  cur : 0 < p.number → readL (halfL f p.half p.side) p.half = (p.number, p.text)
  all : ∀ s, s ≤ 1 → (readL (halfL f p.half s) p.half).1 ≤ p.number
/-- .. and the other half's number is lower. -/
structure Alone (f : Int → Option B) (p : PlateS) : Prop extends Tells f p where
  one : 0 < p.number → (readL (halfL f p.half (1 - p.side)) p.half).1 < p.number
theorem open_half (f : Int → Option B) (half : Nat) : (openP f half).half = half := by
  unfold openP openL
  dsimp only
  split <;> split <;> rfl
theorem open_tells (f : Int → Option B) (half : Nat) : Tells f (openP f half) := by
  have h0 := readL_range (halfL f half 0) half
  have h1 := readL_range (halfL f half 1) half
  have all : ∀ n : Int, (readL (halfL f half 0) half).1 ≤ n → (readL (halfL f half 1) half).1 ≤ n → ∀ s, s ≤ 1 → (readL (halfL f half s) half).1 ≤ n := fun n a b s hs => by
    rcases (by omega : s = 0 ∨ s = 1) with rfl | rfl
    · exact a
    · exact b
  unfold openP openL
  generalize hr0 : readL (halfL f half 0) half = r0 at *
  generalize hr1 : readL (halfL f half 1) half = r1 at *
  dsimp only
  by_cases c0 : 0 < r0.1
  · rw [if_pos c0]
    by_cases c1 : r0.1 < r1.1
    · rw [if_pos c1]
      exact ⟨Nat.le_refl _, h1.1, fun h => absurd h (by show ¬ r1.1 = 0; omega), fun _ => hr1, all _ (by show r0.1 ≤ r1.1; omega) (Int.le_refl _)⟩
    · rw [if_neg c1]
      exact ⟨by show 0 ≤ 1; omega, h0.1, fun h => absurd h (by show ¬ r0.1 = 0; omega), fun _ => hr0, all _ (Int.le_refl _) (by show r1.1 ≤ r0.1; omega)⟩
  · rw [if_neg c0]
    by_cases c1 : (0 : Int) < r1.1
    · rw [if_pos c1]
      exact ⟨Nat.le_refl _, h1.1, fun h => absurd h (by show ¬ r1.1 = 0; omega), fun _ => hr1, all _ (by show r0.1 ≤ r1.1; omega) (Int.le_refl _)⟩
    · rw [if_neg c1]
      exact ⟨by show 0 ≤ 1; omega, Int.le_refl _, fun _ => rfl, fun h => absurd h (by show ¬ (0 : Int) < 0; omega), all _ (by show r0.1 ≤ 0; omega) (by show r1.1 ≤ 0; omega)⟩
/-- Opened again, a plate that stands alone tells the same. -/
theorem open_same {f : Int → Option B} {p : PlateS} (h : Alone f p) : (openP f p.half).number = p.number ∧ (openP f p.half).text = p.text := by
  have a0 := h.all 0 (by omega)
  have a1 := h.all 1 (by omega)
  have g0 := readL_range (halfL f p.half 0) p.half
  have g1 := readL_range (halfL f p.half 1) p.half
  have hpos := h.pos
  by_cases hn : p.number = 0
  · have : openP f p.half = ⟨p.half, 0, 0, []⟩ := by
      unfold openP openL
      dsimp only
      rw [if_neg (by omega : ¬ 0 < (readL (halfL f p.half 0) p.half).1)]
      exact if_neg (by show ¬ (0 : Int) < (readL (halfL f p.half 1) p.half).1; omega)
    rw [this]
    exact ⟨hn.symm, (h.nil hn).symm⟩
  · have hp : 0 < p.number := by omega
    have hc := h.cur hp
    have ho := h.one hp
    unfold openP openL
    rcases (by have := h.side; omega : p.side = 0 ∨ p.side = 1) with hs | hs
    · rw [hs] at hc ho
      have ho' : (readL (halfL f p.half 1) p.half).1 < p.number := ho
      rw [hc]
      dsimp only
      rw [if_pos hp]
      dsimp only
      rw [if_neg (by omega)]
      exact ⟨rfl, rfl⟩
    · rw [hs] at hc ho
      have ho' : (readL (halfL f p.half 0) p.half).1 < p.number := ho
      rw [hc]
      dsimp only
      by_cases c0 : 0 < (readL (halfL f p.half 0) p.half).1
      · rw [if_pos c0]
        dsimp only
        rw [if_pos ho']
        exact ⟨rfl, rfl⟩
      · rw [if_neg c0]
        dsimp only
        rw [if_pos hp]
        exact ⟨rfl, rfl⟩
/-- What a plate is behind a writing that was done. -/
def wroteP (p : PlateS) (s : B) : PlateS := ⟨p.half, 1 - p.side, p.number + 1, s⟩
def wroteF (f : Int → Option B) (p : PlateS) (s : B) : Int → Option B := storeF f (((1 - p.side) * p.half : Nat) : Int) (toldL (p.number + 1) s) 0 (cutN 32 (toldL (p.number + 1) s))
theorem wrote_alone {f : Int → Option B} {p : PlateS} (h : Tells f p) (s : B) (hs : s.length + 40 ≤ p.half * 32) (hs2 : s.length < 4294967296) (hn : p.number < 2147483647) : Alone (wroteF f p s) (wroteP p s) := by
  have hsd := h.side
  have hp := h.pos
  have hl : (toldL (p.number + 1) s).length ≤ 32 * p.half := by rw [toldL_len]; omega
  obtain ⟨r, hr⟩ := half_store f p.half (1 - p.side) (toldL (p.number + 1) s) hl
  have ho := half_other f p.half (1 - p.side) (toldL (p.number + 1) s) hl (by omega)
  have hcur : readL (halfL (wroteF f p s) p.half (1 - p.side)) p.half = (p.number + 1, s) := by
    unfold wroteF
    rw [hr]
    exact read_told _ s r p.half (by omega) (by omega) hs hs2
  have hoth : halfL (wroteF f p s) p.half p.side = halfL f p.half p.side := by
    unfold wroteF
    have e : 1 - (1 - p.side) = p.side := by omega
    rw [e] at ho
    exact ho
  have hle := h.all p.side hsd
  refine ⟨⟨by show 1 - p.side ≤ 1; omega, by show 0 ≤ p.number + 1; omega, fun hh => absurd hh (by show ¬ p.number + 1 = 0; omega), fun _ => hcur, fun sd hsd' => ?_⟩, fun _ => ?_⟩
  · show (readL (halfL _ p.half sd) p.half).1 ≤ p.number + 1
    by_cases e : sd = p.side
    · subst e; rw [hoth]; omega
    · have : sd = 1 - p.side := by omega
      subst this; rw [hcur]; exact Int.le_refl _
  · show (readL (halfL _ p.half (1 - (1 - p.side))) p.half).1 < p.number + 1
    rw [show 1 - (1 - p.side) = p.side by omega, hoth]
    omega
theorem half_wrote_other {f : Int → Option B} {p : PlateS} (hsd : p.side ≤ 1) (s : B) (hs : s.length + 40 ≤ p.half * 32) : halfL (wroteF f p s) p.half p.side = halfL f p.half p.side := by
  have ho := half_other f p.half (1 - p.side) (toldL (p.number + 1) s) (by rw [toldL_len]; omega) (by omega)
  have e : 1 - (1 - p.side) = p.side := by omega
  rw [e] at ho
  exact ho
end Go.Proofs.Ytaohfmmapammcaa.Pl

/- A disk in memory; New, Size, Down, Start. No conditions beside those written out. -/
set_option linter.unusedSimpArgs false
set_option linter.unusedVariables false
namespace Go.Proofs.Ytaohfmmapammcaa.Pl
open Go Go.RowKit Go.Proofs.YtaohfmmapammcaaW.PrintWords Go.Proofs.Ytaohfmmapammcaa.Sha Go.Proofs.Ytaohfmmapammcaa.Dig Go.Proofs.Ytaohfmmapammcaa.Ev

def lastsF (f : Int → Option B) : Value → Option Value
  | .int .i64 a => (f a).map fun s => .string (bs s)
  | _ => none
def waitV (l : List (Int × B)) : List Value := l.flatMap fun x => [.int .i64 x.1, .string (bs x.2)]
/-- A disk's block, its map, its row of writes that wait. -/
structure Dsk (w : World) (b m : Nat) (v : Value) (D : DiskS) : Prop where
  blk : Blk w b 116 [.int .i64 (D.size : Int), .map (some m), v, .int .i64 D.cutAt, .int .u64 0, .int .i64 D.count, .bool D.down]
  lasts : MapF w m (.int .i64) (lastsF D.lasts)
  wait : w.ownsRow 0 119 2 v D.wait.length (waitV D.wait)
theorem Dsk.no {w w1 : World} {b m : Nat} {v : Value} {D : DiskS} (h : Dsk w b m v D) (f : Fr No w w1) : Dsk w1 b m v D := ⟨h.blk.no f, h.lasts.no f, own_no h.wait f⟩

set_option maxHeartbeats 2000000 in
theorem size_any {w : World} {b m : Nat} {v : Value} {D : DiskS} (h : Dsk w b m v D) : Calls Try.prog 73 #[.pointer (some ⟨b, 0, none⟩)] w fun e w' => e = .returned (.int .i64 (D.size : Int)) ∧ w' = w := by
  have c0 := h.blk.at_ 0 rfl
  clear h
  go_enter Try.func73, Try.ntmps73
  go_wp2_with fail
  go_ret
  exact ⟨rfl, rfl⟩
set_option maxHeartbeats 2000000 in
theorem down_any {w : World} {b m : Nat} {v : Value} {D : DiskS} (h : Dsk w b m v D) : Calls Try.prog 74 #[.pointer (some ⟨b, 0, none⟩)] w fun e w' => e = .returned (.bool D.down) ∧ w' = w := by
  have c0 := h.blk.at_ 6 rfl
  clear h
  go_enter Try.func74, Try.ntmps74
  go_wp2_with fail
  go_ret
  exact ⟨rfl, rfl⟩
set_option maxHeartbeats 2000000 in
theorem asked_any {w : World} {b m : Nat} {v : Value} {D : DiskS} (h : Dsk w b m v D) (a : Int) : Calls Try.prog 69 #[.pointer (some ⟨b, 0, none⟩), .int .i64 a] w fun e w' => e = .returned (.int .i64 (askedD D a)) ∧ w' = w := by
  have c6 := h.blk.at_ 6 rfl
  have c0 := h.blk.at_ 0 rfl
  unfold askedD
  clear h
  generalize D.size = z at c0 ⊢
  generalize D.down = dn at c6 ⊢
  cases dn
  · rw [if_neg (by decide)]
    by_cases h1 : a < 0
    · rw [if_pos h1]
      go_enter Try.func69, Try.ntmps69
      go_wp2_with fail
      go_ret
      exact ⟨rfl, rfl⟩
    · rw [if_neg h1]
      have h1' : 0 ≤ a := by omega
      by_cases h2 : (z : Int) ≤ a
      · rw [if_pos h2]
        clear h1
        go_enter Try.func69, Try.ntmps69
        go_wp2_with fail
        go_ret
        exact ⟨rfl, rfl⟩
      · rw [if_neg h2]
        have h2' : a < (z : Int) := by omega
        clear h1 h2
        go_enter Try.func69, Try.ntmps69
        go_wp2_with fail
        go_ret
        exact ⟨rfl, rfl⟩
  · rw [if_pos rfl]
    go_enter Try.func69, Try.ntmps69
    go_wp2_with fail
    go_ret
    exact ⟨rfl, rfl⟩
set_option maxHeartbeats 2000000 in
theorem waiting_any {w : World} {b m : Nat} {v : Value} {D : DiskS} (h : Dsk w b m v D) : Calls Try.prog 30 #[.pointer (some ⟨b, 0, none⟩)] w fun e w' => e = .returned (.int .i64 (D.wait.length : Int)) ∧ w' = w := by
  have c2 := h.blk.at_ 2 rfl
  obtain ⟨A, c, hv⟩ := own_slice h.wait
  subst hv
  clear h
  generalize D.wait.length = n at c2 ⊢
  go_enter Try.func30, Try.ntmps30
  go_wp2_with fail
  go_ret
  exact ⟨rfl, rfl⟩
theorem lastsF_none : lastsF (fun _ => none) = fun _ => none := by
  funext k
  unfold lastsF
  split <;> rfl
set_option maxHeartbeats 4000000 in
theorem new_any (n : Int) (h1 : 1 ≤ n) (h2 : n ≤ 8192) (w : World) : Calls Try.prog 19 #[.int .i64 n] w fun e w' => ∃ b m, e = .returned (.tuple #[.pointer (some ⟨b, 0, none⟩), .int .i64 0]) ∧ Dsk w' b m (.slice none 0 0) (newD n.toNat) ∧ w.heap.size ≤ b ∧ w.heap.size ≤ m ∧ Fr No w w' := by
  obtain ⟨k, rfl⟩ := Int.eq_ofNat_of_zero_le (by omega : 0 ≤ n)
  go_enter Try.func19, Try.ntmps19
  go_wp2_with (first
    | ((with_reducible refine gate_dst (N := 11) rfl ?_); refine ev_mkmap rfl 113 (.int .i64) rfl ?_; intro m w1 hm f1 q1)
    | ((with_reducible refine gate_dst (N := 13) rfl ?_); refine ev_box rfl 116 (.tmp 12) rfl _ rfl [.int .i64 (k : Int), .map (some m), .slice none 0 0, .int .i64 0, .int .u64 0, .int .i64 0, .bool false] (by rfl) ?_; intro b w2 hb f2 bk))
  go_ret2
  exact ⟨b, m, rfl, ⟨bk, by rw [show (newD (k : Int).toNat).lasts = fun _ => none from rfl, lastsF_none]; exact q1.no f2, World.ownsRow_nil _ _ _ _⟩, Nat.le_trans f1.size hb, hm, f1.no f2⟩
/-- The disk's own block is not its map's. -/
theorem Dsk.ne {w : World} {b m : Nat} {v : Value} {D : DiskS} (h : Dsk w b m v D) : m ≠ b := by
  rintro rfl
  obtain ⟨es, clock, hm, _⟩ := h.lasts.out
  have := h.blk.out
  rw [hm] at this
  cases this
/-- The row of writes that wait does not lie in the disk's own block. -/
theorem Dsk.off {w : World} {b m : Nat} {v : Value} {D : DiskS} (h : Dsk w b m v D) : ∀ k, v.ownBlock = some k → k ≠ b := by
  rintro k hk rfl
  obtain ⟨cells, hc⟩ := own_typed h.wait k hk
  have := h.blk.out
  rw [hc] at this
  cases this

/-- A disk in memory that may write to the blocks of S alone, among them all new ones. -/
structure Dk (w : World) (S : Nat → Prop) (b m : Nat) (D : DiskS) : Prop where
  ex : ∃ v, Dsk w b m v D ∧ ∀ k, v.ownBlock = some k → S k
  sb : S b
  sm : S m
  top : ∀ k, w.heap.size ≤ k → S k
theorem Dk.no {w w1 : World} {S : Nat → Prop} {b m : Nat} {D : DiskS} (h : Dk w S b m D) (f : Fr No w w1) : Dk w1 S b m D := by
  obtain ⟨v, hv, hs⟩ := h.ex
  exact ⟨⟨v, hv.no f, hs⟩, h.sb, h.sm, fun k hk => h.top k (Nat.le_trans f.size hk)⟩
/-- What the disk does not write to is written to beside it. -/
theorem Dk.keep {w w1 : World} {S T : Nat → Prop} {b m : Nat} {D : DiskS} (h : Dk w S b m D) (f : Fr T w w1) (hT : ∀ k, k < w.heap.size → T k → ¬ S k) : Dk w1 S b m D := by
  obtain ⟨v, hv, hs⟩ := h.ex
  have hn : ∀ k, k < w.heap.size → S k → ¬ T k := fun k hk h1 h2 => hT k hk h2 h1
  refine ⟨⟨v, ⟨hv.blk.keep f (hn b hv.blk.lt h.sb), hv.lasts.keep f (hn m hv.lasts.lt h.sm), own_keep hv.wait f (fun k hk => hn k ?_ (hs k hk))⟩, hs⟩, h.sb, h.sm, fun k hk => h.top k (Nat.le_trans f.size hk)⟩
  obtain ⟨cells, hc⟩ := own_typed hv.wait k hk
  exact (Array.getElem?_eq_some_iff.1 hc).1
theorem Dk.one {w w1 : World} {S : Nat → Prop} {b m g : Nat} {D : DiskS} (h : Dk w S b m D) (f : Fr (One g) w w1) (hg : ¬ S g) : Dk w1 S b m D := h.keep f (fun k _ e => by cases e; exact hg)
/-- A block that the disk shall not write to any more. -/
def Less (S : Nat → Prop) (g : Nat) : Nat → Prop := fun k => S k ∧ k ≠ g
theorem Dk.less {w : World} {S : Nat → Prop} {b m g : Nat} {D : DiskS} (h : Dk w S b m D) (hb : g ≠ b) (hm : g ≠ m) (hv : ∀ v, Dsk w b m v D → v.ownBlock ≠ some g) (hg : g < w.heap.size) : Dk w (Less S g) b m D := by
  obtain ⟨v, h1, h2⟩ := h.ex
  exact ⟨⟨v, h1, fun k hk => ⟨h2 k hk, fun e => hv v h1 (e ▸ hk)⟩⟩, ⟨h.sb, Ne.symm hb⟩, ⟨h.sm, Ne.symm hm⟩, fun k hk => ⟨h.top k hk, by omega⟩⟩
/-- A block that was made behind a world in which the disk stood. -/
theorem Dk.less_new {w w1 : World} {S : Nat → Prop} {b m g : Nat} {D : DiskS} (h : Dk w S b m D) (f : Fr No w w1) (hg : w.heap.size ≤ g) (hg1 : g < w1.heap.size) : Dk w1 (Less S g) b m D := by
  obtain ⟨v, h1, h2⟩ := h.ex
  have hb := h1.blk.lt
  have hm := h1.lasts.lt
  refine ⟨⟨v, h1.no f, fun k hk => ⟨h2 k hk, ?_⟩⟩, ⟨h.sb, by omega⟩, ⟨h.sm, by omega⟩, fun k hk => ⟨h.top k (Nat.le_trans f.size hk), by omega⟩⟩
  obtain ⟨cells, hc⟩ := own_typed h1.wait k hk
  have := (Array.getElem?_eq_some_iff.1 hc).1
  omega
theorem Fr.less {S : Nat → Prop} {g : Nat} {w w1 : World} (f : Fr (Less S g) w w1) : Fr S w w1 := f.mono (fun i h => .inl h.1)

/-! The row of writes that wait. -/
theorem waitV_len (l : List (Int × B)) : (waitV l).length = l.length * 2 := by
  induction l with
  | nil => rfl
  | cons x l ih => simp only [waitV, List.flatMap_cons, List.length_append, List.length_cons, List.length_nil] at ih ⊢; omega
theorem waitV_at : ∀ (l : List (Int × B)) (i : Nat) (x : Int × B), l[i]? = some x → (waitV l)[i * 2]? = some (.int .i64 x.1) ∧ (waitV l)[i * 2 + 1]? = some (.string (bs x.2))
  | [], i, x, h => by simp at h
  | y :: l, 0, x, h => by
    have : y = x := by simpa using h
    subst this
    exact ⟨rfl, rfl⟩
  | y :: l, i + 1, x, h => by
    have := waitV_at l i x (by simpa using h)
    have e : waitV (y :: l) = Value.int .i64 y.1 :: Value.string (bs y.2) :: waitV l := rfl
    rw [e, show (i + 1) * 2 = i * 2 + 1 + 1 by omega]
    exact this
theorem waitV_append (a c : List (Int × B)) : waitV (a ++ c) = waitV a ++ waitV c := by simp [waitV]
theorem row_at {w : World} {v : Value} {l : List (Int × B)} (h : w.ownsRow 0 119 2 v l.length (waitV l)) (h0 : 0 < l.length) : ∃ g c, v = .slice (some ⟨g, 0, none⟩) l.length c ∧ g < w.heap.size ∧ ∀ i x, l[i]? = some x → w.cell? ⟨g, i * 2, none⟩ = some (.int .i64 x.1) ∧ w.cell? ⟨g, i * 2 + 1, none⟩ = some (.string (bs x.2)) := by
  obtain ⟨A, c, hv⟩ := own_slice h
  subst hv
  rcases h.2 with ⟨e, _⟩ | ⟨g, cap, cur, e, _, hg, _⟩
  · injection e with _ e _; omega
  · injection e with e1 e2 e3
    subst e1
    refine ⟨g, c, rfl, (Array.getElem?_eq_some_iff.1 hg).1, fun i x hx => ?_⟩
    have hc := h.cells (g := g) rfl
    obtain ⟨p, q⟩ := waitV_at l i x hx
    have hp := hc _ _ p
    have hq := hc _ _ q
    rw [Addr.add_lit, Nat.zero_add] at hp hq
    exact ⟨hp, hq⟩

set_option maxHeartbeats 2000000 in
theorem start_any {w : World} {S : Nat → Prop} {b m : Nat} {D : DiskS} (h : Dk w S b m D) : Calls Try.prog 33 #[.pointer (some ⟨b, 0, none⟩)] w fun e w' => e = .returned (.tuple #[]) ∧ Dk w' S b m (startD D) ∧ Fr S w w' := by
  obtain ⟨v, hv, hs⟩ := h.ex
  have hne := hv.ne
  have hoff := hv.off
  have HB := Kp.mk hv
  have H := Kp.mk h
  have HS := Kp.mk hs
  clear h hv hs
  go_enter Try.func33, Try.ntmps33
  go_wp2_with ((with_reducible refine gate_store (t := 4) (p := 4) rfl ?_); refine ev_store rfl 4 _ _ rfl b 6 (.bool false) rfl rfl rfl 116 _ HB.out.blk (by show 6 < 7; decide) (by kernel_rfl) ?_; intro w1 f1 b1)
  go_end0
  refine ⟨rfl, ⟨⟨v, ⟨b1, HB.out.lasts.keep f1 (fun e => hne e), own_keep HB.out.wait f1 (fun k hk e => hoff k hk e)⟩, HS.out⟩, H.out.sb, H.out.sm, fun k hk => H.out.top k (Nat.le_trans f1.size hk)⟩, f1.mono (fun i e => by cases e; exact .inl H.out.sb)⟩
end Go.Proofs.Ytaohfmmapammcaa.Pl

/- A disk's inner calls: Arm, last, Crash, fails, Flush. Conditions: sizes are bounded, as written out. -/
set_option linter.unusedSimpArgs false
set_option linter.unusedVariables false
namespace Go.Proofs.Ytaohfmmapammcaa.Pl
open Go Go.RowKit Go.Proofs.YtaohfmmapammcaaW.PrintWords Go.Proofs.Ytaohfmmapammcaa.Sha Go.Proofs.Ytaohfmmapammcaa.Dig Go.Proofs.Ytaohfmmapammcaa.Ev Go.Proofs.Ytaohfmmapammcaa.Reg

section
variable {P : Program} {ops : Array Oper} {rest : List Oper} {o : Oper} {a : Act} {Q : Exit → Act → World → Prop} {W : World}
/-- 'p.f = v', v of several cells, within a block. -/
theorem ev_store_at (hgd : o.guard = none) (ty : TypeId) (x y : Operand) (ho : o.op = .store ty x y) (g off : Nat) (vs : List Value) (hx : a.eval x = .pointer (some ⟨g, off, none⟩)) (hy : a.eval y = .agg vs.toArray)
    (t : TypeId) (cs : List Value) (hb : Blk W g t cs) (hfit : off + vs.length ≤ cs.length) (hi : (P.info? ty).map (·.size) = some vs.length) (h1 : ∀ v ∈ vs, v.oneCell' = true)
    (h : ∀ w1, Fr (One g) W w1 → Blk w1 g t (cs.take off ++ vs ++ cs.drop (off + vs.length)) → wpList P ops Q rest (a.put o.dst undef) w1) : wpList P ops Q (o :: rest) a W := by
  have hsz : (sizeOf ty).run P W = .ok vs.length W := by
    obtain ⟨q, hq, hq1⟩ := Option.map_eq_some_iff.1 hi
    simp [sizeOf, typeInfo, hq, hq1]
  have hst := run_storeCells_at P g off t vs 0 cs.toArray W hb.out (by simpa using hfit) h1
  refine run_skip hgd (w1 := W.setRow g (cs.take off ++ vs ++ cs.drop (off + vs.length)).toArray) ?_ (h _ (Fr.setRow _ _ _) (hb.row _))
  simp [execOp, ho, hx, hy, Instr.storeAt, Instr.sureAddr, storeVar, Value.cells, hsz, hst, Sem.run_bind, Result.andThen]
end

theorem sizeCut : (Try.prog.info? 112).map (·.size) = some 2 := by kernel_rfl
theorem sizeWr : (Try.prog.info? 119).map (·.size) = some 2 := by kernel_rfl
theorem sizeWrs : (Try.prog.info? 114).map (·.size) = some 1 := by kernel_rfl
theorem sizeInt : (Try.prog.info? 3).map (·.size) = some 1 := by kernel_rfl
theorem sizeBool : (Try.prog.info? 4).map (·.size) = some 1 := by kernel_rfl
theorem zeroWr : (Try.prog.info? 119).bind (·.zero) = some (.agg #[.int .i64 0, .string ⟨#[]⟩]) := by kernel_rfl
theorem zeroStr : (Try.prog.info? 9).bind (·.zero) = some (.string ⟨#[]⟩) := by kernel_rfl

/-- The disk's block is written, all else of it stays. -/
theorem Dk.wrote {w w1 : World} {S : Nat → Prop} {b m : Nat} {D D' : DiskS} {v : Value} (h : Dk w S b m D) (hv : Dsk w b m v D) (hs : ∀ k, v.ownBlock = some k → S k) (f : Fr (One b) w w1)
    (hb : Blk w1 b 116 [.int .i64 (D'.size : Int), .map (some m), v, .int .i64 D'.cutAt, .int .u64 0, .int .i64 D'.count, .bool D'.down]) (h1 : D'.lasts = D.lasts) (h2 : D'.wait = D.wait) : Dk w1 S b m D' ∧ Fr S w w1 := by
  refine ⟨⟨⟨v, ⟨hb, by rw [h1]; exact hv.lasts.keep f (fun e => hv.ne e), by rw [h2]; exact own_keep hv.wait f (fun k hk e => hv.off k hk e)⟩, hs⟩, h.sb, h.sm, fun k hk => h.top k (Nat.le_trans f.size hk)⟩, f.mono (fun i e => by cases e; exact .inl h.sb)⟩
/-- .. and nothing of it waits any more. -/
theorem Dk.wroteNil {w w1 : World} {S : Nat → Prop} {b m : Nat} {D D' : DiskS} {v : Value} (h : Dk w S b m D) (hv : Dsk w b m v D) (f : Fr (One b) w w1)
    (hb : Blk w1 b 116 [.int .i64 (D'.size : Int), .map (some m), .slice none 0 0, .int .i64 D'.cutAt, .int .u64 0, .int .i64 D'.count, .bool D'.down]) (h1 : D'.lasts = D.lasts) (h2 : D'.wait = []) : Dk w1 S b m D' ∧ Fr S w w1 := by
  refine ⟨⟨⟨.slice none 0 0, ⟨hb, by rw [h1]; exact hv.lasts.keep f (fun e => hv.ne e), by rw [h2]; exact World.ownsRow_nil _ _ _ _⟩, fun k hk => by simp [Value.ownBlock] at hk⟩, h.sb, h.sm, fun k hk => h.top k (Nat.le_trans f.size hk)⟩, f.mono (fun i e => by cases e; exact .inl h.sb)⟩
/-- The row of writes that wait is not the map. -/
theorem Dsk.offm {w : World} {b m : Nat} {v : Value} {D : DiskS} (h : Dsk w b m v D) : ∀ k, v.ownBlock = some k → k ≠ m := by
  rintro k hk rfl
  obtain ⟨cells, hc⟩ := own_typed h.wait k hk
  obtain ⟨es, clock, hm, _⟩ := h.lasts.out
  rw [hm] at hc
  cases hc

set_option maxHeartbeats 4000000 in
theorem arm_any {w : World} {S : Nat → Prop} {b m : Nat} {D : DiskS} (h : Dk w S b m D) (at_ : Int) : Calls Try.prog 68 #[.pointer (some ⟨b, 0, none⟩), .agg #[.int .i64 at_, .int .u64 0]] w fun e w' => e = .returned (.tuple #[]) ∧ Dk w' S b m (armD D at_) ∧ Fr S w w' := by
  have H := Kp.mk h
  obtain ⟨v, hv, hs⟩ := h.ex
  have HB := Kp.mk hv
  have HS := Kp.mk hs
  have fin : ∀ {w1 w2 : World} (x : Int), (armD D at_).cutAt = x → Fr No w w1 → Fr (One b) w1 w2 → Blk w2 b 116 [.int .i64 (D.size : Int), .map (some m), v, .int .i64 x, .int .u64 0, .int .i64 0, .bool D.down] → Dk w2 S b m (armD D at_) ∧ Fr S w w2 := fun x hx fa f hb => by
    obtain ⟨h1, h2⟩ := (H.out.no fa).wrote (D' := armD D at_) (HB.out.no fa) HS.out f (by rw [hx]; exact hb) rfl rfl
    exact ⟨h1, (fa.mono (fun i e => e.elim)).trans h2 (fun i e => .inl e)⟩
  have FIN := Kp.mk @fin
  by_cases h1 : at_ < 1
  · have hx : Kp ((armD D at_).cutAt = 0) := ⟨if_pos h1⟩
    clear h hv hs fin
    go_enter Try.func68, Try.ntmps68
    go_wp2_with (first
      | ((with_reducible refine gate_dst (N := 3) rfl ?_); refine ev_box rfl 112 _ rfl _ rfl [.int .i64 at_, .int .u64 0] (by rfl) ?_; intro g1 w1 hg1 f1 b1; have b0 := HB.out.blk.no f1; have k0 := b1.at_ 0 rfl; have k1 := b1.at_ 1 rfl)
      | ((with_reducible refine gate_store (t := 112) (p := 8) rfl ?_); refine ev_store_at rfl 112 _ _ rfl b 3 [.int .i64 at_, .int .u64 0] rfl rfl 116 _ b0 (by show 5 ≤ 7; decide) sizeCut (by simp [Value.oneCell']) ?_; intro w2 f2 b2)
      | ((with_reducible refine gate_store (t := 3) (p := 10) rfl ?_); refine ev_store rfl 3 _ _ rfl b 5 (.int .i64 0) rfl rfl rfl 116 _ b2 (by show 5 < 7; decide) sizeInt ?_; intro w3 f3 b3; have k2 := Fr.cell (Fr.cell k0 f2 (fun e => by have := HB.out.blk.lt; have e : g1 = b := e; omega)) f3 (fun e => by have := HB.out.blk.lt; have e : g1 = b := e; omega))
      | ((with_reducible refine gate_store (t := 112) (p := 17) rfl ?_); refine ev_store_at rfl 112 _ _ rfl b 3 [.int .i64 0, .int .u64 0] rfl rfl 116 _ b3 (by show 5 ≤ 7; decide) sizeCut (by simp [Value.oneCell']) ?_; intro w4 f4 b4))
    go_end0
    exact ⟨rfl, FIN.out 0 hx.out f1 ((f2.one f3 (.inl rfl)).one f4 (.inl rfl)) b4⟩
  · have hx : Kp ((armD D at_).cutAt = at_) := ⟨if_neg h1⟩
    clear h hv hs fin
    go_enter Try.func68, Try.ntmps68
    go_wp2_with (first
      | ((with_reducible refine gate_dst (N := 3) rfl ?_); refine ev_box rfl 112 _ rfl _ rfl [.int .i64 at_, .int .u64 0] (by rfl) ?_; intro g1 w1 hg1 f1 b1; have b0 := HB.out.blk.no f1; have k0 := b1.at_ 0 rfl; have k1 := b1.at_ 1 rfl)
      | ((with_reducible refine gate_store (t := 112) (p := 8) rfl ?_); refine ev_store_at rfl 112 _ _ rfl b 3 [.int .i64 at_, .int .u64 0] rfl rfl 116 _ b0 (by show 5 ≤ 7; decide) sizeCut (by simp [Value.oneCell']) ?_; intro w2 f2 b2)
      | ((with_reducible refine gate_store (t := 3) (p := 10) rfl ?_); refine ev_store rfl 3 _ _ rfl b 5 (.int .i64 0) rfl rfl rfl 116 _ b2 (by show 5 < 7; decide) sizeInt ?_; intro w3 f3 b3; have k2 := Fr.cell (Fr.cell k0 f2 (fun e => by have := HB.out.blk.lt; have e : g1 = b := e; omega)) f3 (fun e => by have := HB.out.blk.lt; have e : g1 = b := e; omega)))
    go_end0
    exact ⟨rfl, FIN.out at_ hx.out f1 (f2.one f3 (.inl rfl)) b3⟩

/-! last, handed Flush's closure, and Crash's (of which nothing is kept). -/
theorem lastsF_put (f : Int → Option B) (x : Int × B) : (fun y => open Classical in if y = Value.int .i64 x.1 then some (.string (bs x.2)) else lastsF f y) = lastsF (put1 f x) := by
  funext y
  by_cases h : y = .int .i64 x.1
  · subst h
    rw [if_pos rfl]
    simp [lastsF, put1]
  · rw [if_neg h]
    unfold lastsF
    split
    · rename_i a
      have : ¬ a = x.1 := fun e => h (by rw [e])
      simp [put1, this]
    · rfl
set_option maxHeartbeats 1000000 in
theorem flush1_any (i : Int) (w : World) : Calls Try.prog 72 #[.int .i64 i] w fun e w' => e = .returned (.bool true) ∧ w' = w := by
  go_enter Try.func72, Try.ntmps72
  go_wp2_with fail
  go_ret
  exact ⟨rfl, rfl⟩
set_option maxHeartbeats 1000000 in
theorem crash1_any (i : Nat) (g : Nat) (w : World) (hi : i ≤ 1099511627776) (hb : Blk w g 53 [.int .u64 0]) : Calls Try.prog 80 #[.int .i64 (i : Int), .pointer (some ⟨g, 0, none⟩)] w fun e w' => e = .returned (.bool false) ∧ w' = w := by
  have c := hb.at_ 0 rfl
  clear hb
  by_cases h : (i : Int) < 64
  · go_enter Try.func80, Try.ntmps80
    go_wp2_with fail
    go_ret
    exact ⟨rfl, rfl⟩
  · have h' : (64 : Int) ≤ (i : Int) := by omega
    clear h
    go_enter Try.func80, Try.ntmps80
    go_wp2_with fail
    go_ret
    exact ⟨rfl, rfl⟩

set_option maxHeartbeats 4000000 in
set_option maxRecDepth 100000 in
theorem last_all {w : World} {S : Nat → Prop} {b m : Nat} {D : DiskS} (h : Dk w S b m D) (hl : D.wait.length ≤ 1099511627776) : Calls Try.prog 71 #[.pointer (some ⟨b, 0, none⟩), .func (.func 72) #[] #[]] w fun e w' => e = .returned (.tuple #[]) ∧ Dk w' S b m (lastD D) ∧ Fr S w w' := by
  have H := Kp.mk h
  obtain ⟨v, hv, hs⟩ := h.ex
  obtain ⟨A, c, rfl⟩ := own_slice hv.wait
  have HB := Kp.mk hv
  have c2 := hv.blk.at_ 2 rfl
  have hne := Kp.mk hv.ne
  have OFM := Kp.mk hv.offm
  obtain ⟨l, hll⟩ : ∃ l, l = D.wait := ⟨_, rfl⟩
  have HL := Kp.mk hll
  have ROW := Kp.mk hv.wait
  rw [← hll] at ROW c2 hl
  clear h hv hs hll
  go_enter Try.func71, Try.ntmps71
  go_wp2_with fail
  go_loopg [11] l.length (fun gg s wr => ∃ i : Nat, i ≤ l.length ∧ l.length - i ≤ gg ∧ s = .int .i64 i ∧ Kp (Fr (One m) w wr) ∧ Kp (MapF wr m (.int .i64) (lastsF ((l.take i).foldl put1 D.lasts))))
  case atStart => exact ⟨0, Nat.zero_le _, by omega, rfl, ⟨Fr.refl _ _⟩, ⟨HB.out.lasts⟩⟩
  case round =>
    obtain ⟨i, hi, hg, rfl, F, M⟩ := hrel
    have b0 : Kp (Blk wr b 116 _) := ⟨HB.out.blk.keep F.out (fun e => hne.out e.symm)⟩
    by_cases hlt : i < l.length
    · have hltz : (i : Int) < (l.length : Int) := by omega
      obtain ⟨x, hx⟩ : ∃ x, l[i]? = some x := ⟨_, List.getElem?_eq_getElem hlt⟩
      obtain ⟨g, c', e, hgl, hcc⟩ := row_at ROW.out (by omega)
      injection e with e1 e2 e3
      subst e1 e3
      obtain ⟨l1, l2⟩ := hcc i x hx
      have hgm : g ≠ m := OFM.out g rfl
      have l1 := Fr.cell l1 F.out (fun e => hgm e)
      have l2 := Fr.cell l2 F.out (fun e => hgm e)
      have NXT : Kp ((l.take (i + 1)).foldl put1 D.lasts = put1 ((l.take i).foldl put1 D.lasts) x) := ⟨by rw [List.take_add_one, hx]; simp [List.foldl_append]⟩
      clear hcc hx
      obtain ⟨x1, x2⟩ := x
      go_wp2_with (first
        | ((with_reducible refine gate_dst (N := 5) rfl ?_); refine ev_alloc rfl 119 rfl _ [.int .i64 0, .string ⟨#[]⟩] zeroWr rfl ?_; intro g5 w1 hg5 f1 b5)
        | ((with_reducible refine gate_store (t := 119) (p := 5) rfl ?_); refine ev_store_row rfl 119 _ _ rfl g5 #[.int .i64 x1, .string (bs x2)] rfl rfl 119 _ b5 sizeWr rfl (by simp [Value.oneCell']) ?_; intro w2 f2 b52)
        | (go_at_call 72; refine (flush1_any _ _).mono ?_; rintro e w3 ⟨rfl, rfl⟩))
      have hbw : b < wr.heap.size := Nat.lt_of_lt_of_le HB.out.blk.lt F.out.size
      have hmw : m < wr.heap.size := Nat.lt_of_lt_of_le HB.out.lasts.lt F.out.size
      have hw1 : wr.heap.size ≤ w1.heap.size := f1.size
      have F2 : Kp (Fr (One m) w w3) := ⟨((F.out.no f1)).one f2 (.inr (Nat.le_trans F.out.size hg5))⟩
      have M2 : Kp (MapF w3 m (.int .i64) (lastsF ((l.take i).foldl put1 D.lasts))) := ⟨(M.out.no f1).keep f2 (fun e => by have e : m = g5 := e; omega)⟩
      have b2 : Blk w3 b 116 _ := (b0.out.no f1).keep f2 (fun e => by have e : b = g5 := e; omega)
      have k1 := b2.at_ 1 rfl
      have k51 := b52.at_ 0 rfl
      have k52 := b52.at_ 1 rfl
      clear b0 b2 b52 b5 F M
      refine wp_region_drawn_tail 8 (by kernel_rfl) (by kernel_rfl) ?_
      simp only [List.take_succ_cons, List.take_zero, List.drop_succ_cons, List.drop_zero]
      repeat (first | go_big_quiet_step (fail) | quiet_step (fail))
      refine wpQuiet_nil ?_
      rintro _ ⟨mm, rfl⟩
      refine ev_update rfl 113 3 9 _ _ _ rfl (M2.out.drewN mm) rfl Try.underlying113 Try.underlying3 (.int .i64 x1) (.string (bs x2)) rfl rfl (by constructor) ?_
      intro w4 f4 m4
      go_wp2_with fail
      go_roundg (l.length - (i + 1))
      case measure => omega
      case rel => exact ⟨i + 1, by omega, by omega, by go_num, ⟨(F2.out.drewN mm).one f4 (.inl rfl)⟩, ⟨by rw [NXT.out, ← lastsF_put]; exact m4⟩⟩
    · obtain rfl : i = l.length := by omega
      have hltz : ¬ (l.length : Int) < (l.length : Int) := by omega
      rw [List.take_length] at M
      go_wp2_with ((with_reducible refine gate_store (t := 114) (p := 30) rfl ?_); refine ev_store rfl 114 _ _ rfl b 2 (.slice none 0 0) rfl rfl rfl 116 _ b0.out (by show 2 < 7; decide) sizeWrs ?_; intro w2 f2 b2)
      go_end0
      refine ⟨rfl, ⟨⟨.slice none 0 0, ⟨b2, ?_, World.ownsRow_nil _ _ _ _⟩, fun k hk => by simp [Value.ownBlock] at hk⟩, H.out.sb, H.out.sm, fun k hk => H.out.top k (Nat.le_trans F.out.size (Nat.le_trans f2.size hk))⟩, (F.out.mono (fun k e => by cases e; exact .inl H.out.sm)).one f2 (.inl H.out.sb)⟩
      have := M.out.keep f2 (fun e => hne.out e)
      rw [HL.out] at this
      exact this

set_option maxHeartbeats 4000000 in
set_option maxRecDepth 100000 in
theorem last_none {w : World} {S : Nat → Prop} {b m gq : Nat} {D : DiskS} (h : Dk w S b m D) (hl : D.wait.length ≤ 1099511627776) (hk : Blk w gq 53 [.int .u64 0]) : Calls Try.prog 71 #[.pointer (some ⟨b, 0, none⟩), .func (.func 80) #[] #[.pointer (some ⟨gq, 0, none⟩)]] w fun e w' => e = .returned (.tuple #[]) ∧ Dk w' S b m { D with wait := [] } ∧ Fr S w w' := by
  have H := Kp.mk h
  obtain ⟨v, hv, hs⟩ := h.ex
  obtain ⟨A, c, rfl⟩ := own_slice hv.wait
  have HB := Kp.mk hv
  have c2 := hv.blk.at_ 2 rfl
  obtain ⟨l, hll⟩ : ∃ l, l = D.wait := ⟨_, rfl⟩
  have HL := Kp.mk hll
  have ROW := Kp.mk hv.wait
  rw [← hll] at ROW c2 hl
  clear h hv hs hll
  go_enter Try.func71, Try.ntmps71
  go_wp2_with fail
  go_loopg [11] l.length (fun gg s wr => ∃ i : Nat, i ≤ l.length ∧ l.length - i ≤ gg ∧ s = .int .i64 i ∧ Kp (Fr No w wr))
  case atStart => exact ⟨0, Nat.zero_le _, by omega, rfl, ⟨Fr.refl _ _⟩⟩
  case round =>
    obtain ⟨i, hi, hg, rfl, F⟩ := hrel
    have b0 : Kp (Blk wr b 116 _) := ⟨HB.out.blk.no F.out⟩
    by_cases hlt : i < l.length
    · have hltz : (i : Int) < (l.length : Int) := by omega
      obtain ⟨x, hx⟩ : ∃ x, l[i]? = some x := ⟨_, List.getElem?_eq_getElem hlt⟩
      obtain ⟨g, c', e, hgl, hcc⟩ := row_at ROW.out (by omega)
      injection e with e1 e2 e3
      subst e1 e3
      obtain ⟨l1, l2⟩ := hcc i x hx
      have l1 := Fr.cell l1 F.out (fun e => e)
      have l2 := Fr.cell l2 F.out (fun e => e)
      have hgk := hk.lt
      have hgw : gq < wr.heap.size := Nat.lt_of_lt_of_le hgk F.out.size
      clear hcc hx
      obtain ⟨x1, x2⟩ := x
      go_wp2_with (first
        | ((with_reducible refine gate_dst (N := 5) rfl ?_); refine ev_alloc rfl 119 rfl _ [.int .i64 0, .string ⟨#[]⟩] zeroWr rfl ?_; intro g5 w1 hg5 f1 b5)
        | ((with_reducible refine gate_store (t := 119) (p := 5) rfl ?_); refine ev_store_row rfl 119 _ _ rfl g5 #[.int .i64 x1, .string (bs x2)] rfl rfl 119 _ b5 sizeWr rfl (by simp [Value.oneCell']) ?_; intro w2 f2 b52)
        | (go_at_call 80; refine (crash1_any i gq _ (by omega) (((hk.no F.out).no f1).keep f2 (fun e => by have e : gq = g5 := e; omega))).mono ?_; rintro e w3 ⟨rfl, rfl⟩))
      go_roundg (l.length - (i + 1))
      case measure => omega
      case rel => exact ⟨i + 1, by omega, by omega, by go_num, ⟨(F.out.no f1).one f2 (.inr (Nat.le_trans F.out.size hg5))⟩⟩
    · obtain rfl : i = l.length := by omega
      have hltz : ¬ (l.length : Int) < (l.length : Int) := by omega
      go_wp2_with ((with_reducible refine gate_store (t := 114) (p := 30) rfl ?_); refine ev_store rfl 114 _ _ rfl b 2 (.slice none 0 0) rfl rfl rfl 116 _ b0.out (by show 2 < 7; decide) sizeWrs ?_; intro w2 f2 b2)
      go_end0
      obtain ⟨h1, h2⟩ := (H.out.no F.out).wroteNil (D' := { D with wait := [] }) (HB.out.no F.out) f2 b2 rfl rfl
      exact ⟨rfl, h1, (F.out.mono (fun k e => e.elim)).trans h2 (fun k e => .inl e)⟩
end Go.Proofs.Ytaohfmmapammcaa.Pl

/- A disk's Crash (nothing is kept), fails, Flush. Conditions: sizes are bounded, as written out. -/
set_option linter.unusedSimpArgs false
set_option linter.unusedVariables false
namespace Go.Proofs.Ytaohfmmapammcaa.Pl
open Go Go.RowKit Go.Proofs.YtaohfmmapammcaaW.PrintWords Go.Proofs.Ytaohfmmapammcaa.Sha Go.Proofs.Ytaohfmmapammcaa.Dig Go.Proofs.Ytaohfmmapammcaa.Ev Go.Proofs.Ytaohfmmapammcaa.Reg

set_option maxHeartbeats 4000000 in
set_option maxRecDepth 100000 in
theorem crash_any {w : World} {S : Nat → Prop} {b m : Nat} {D : DiskS} (h : Dk w S b m D) (hl : D.wait.length ≤ 1099511627776) : Calls Try.prog 32 #[.pointer (some ⟨b, 0, none⟩), .int .u64 0] w fun e w' => e = .returned (.tuple #[]) ∧ Dk w' S b m (crashD D) ∧ Fr S w w' := by
  have H := Kp.mk h
  obtain ⟨v, hv, hs⟩ := h.ex
  have HB := Kp.mk hv
  clear h hs hv
  cases hd : D.down with
  | true =>
    have HD : Kp (crashD D = D) := ⟨by unfold crashD; rw [hd]; rfl⟩
    have HDD := Kp.mk hd
    clear hd
    go_enter Try.func32, Try.ntmps32
    go_wp2_with ((with_reducible refine gate_dst (N := 3) rfl ?_); refine ev_box rfl 53 _ rfl _ rfl [.int .u64 0] (by rfl) ?_; intro gq w1 hg1 f1 b1; have c6 := (HB.out.blk.no f1).at_ 6 rfl; rw [HDD.out] at c6)
    refine bodyPost_ret (results_none rfl _ _ _) rfl ?_
    exact ⟨rfl, by rw [HD.out]; exact H.out.no f1, f1.mono (fun i e => e.elim)⟩
  | false =>
    have HD : Kp (crashD D = { D with wait := [], cutAt := 0, down := true }) := ⟨by unfold crashD; rw [hd]; rfl⟩
    have HDD := Kp.mk hd
    clear hd
    go_enter Try.func32, Try.ntmps32
    go_wp2_with (first
      | ((with_reducible refine gate_dst (N := 3) rfl ?_); refine ev_box rfl 53 _ rfl _ rfl [.int .u64 0] (by rfl) ?_; intro gq w1 hg1 f1 b1; have c6 := (HB.out.blk.no f1).at_ 6 rfl; rw [HDD.out] at c6)
      | (go_at_call 71; refine (last_none (H.out.no f1) hl b1).mono ?_; rintro e w2 ⟨rfl, h2, f2⟩; obtain ⟨v2, hv2, hs2⟩ := h2.ex; have H2 := Kp.mk h2; have HS2 := Kp.mk hs2; have HV2 := Kp.mk hv2; clear h2 hs2 hv2; have b2 := HV2.out.blk)
      | ((with_reducible refine gate_store (t := 112) (p := 15) rfl ?_); refine ev_store_at rfl 112 _ _ rfl b 3 [.int .i64 0, .int .u64 0] rfl rfl 116 _ b2 (by show 5 ≤ 7; decide) sizeCut (by simp [Value.oneCell']) ?_; intro w3 f3 b3)
      | ((with_reducible refine gate_store (t := 4) (p := 17) rfl ?_); refine ev_store rfl 4 _ _ rfl b 6 (.bool true) rfl rfl rfl 116 _ b3 (by show 6 < 7; decide) sizeBool ?_; intro w4 f4 b4))
    go_end0
    obtain ⟨r1, r2⟩ := H2.out.wrote (D' := { D with wait := [], cutAt := 0, down := true }) HV2.out HS2.out (f3.one f4 (.inl rfl)) b4 rfl rfl
    exact ⟨rfl, by rw [HD.out]; exact r1, ((f1.mono (fun i e => e.elim)).trans f2 (fun i e => .inl e)).trans r2 (fun i e => .inl e)⟩

set_option maxHeartbeats 4000000 in
set_option maxRecDepth 100000 in
theorem fails_any {w : World} {S : Nat → Prop} {b m : Nat} {D : DiskS} (h : Dk w S b m D) (h0 : 0 ≤ D.count) (h1 : D.count ≤ 1099511627776) (hl : D.wait.length ≤ 1099511627776) : Calls Try.prog 70 #[.pointer (some ⟨b, 0, none⟩)] w fun e w' => e = .returned (.bool (failB D)) ∧ Dk w' S b m (failD D) ∧ Fr S w w' := by
  have H := Kp.mk h
  obtain ⟨v, hv, hs⟩ := h.ex
  have HB := Kp.mk hv
  have HS := Kp.mk hs
  have c5 := hv.blk.at_ 5 rfl
  clear h hs hv
  by_cases he : D.cutAt = D.count + 1
  · have hne : (D.cutAt != D.count + 1) = false := by simpa using he
    have HF : Kp (failB D = true ∧ failD D = crashD (countD D)) := ⟨by unfold failB; simpa using he, by unfold failD; rw [if_pos he]⟩
    clear he
    go_enter Try.func70, Try.ntmps70
    go_wp2_with ((with_reducible refine gate_store (t := 3) (p := 9) rfl ?_); refine ev_store rfl 3 _ _ rfl b 5 (.int .i64 (D.count + 1)) rfl rfl rfl 116 _ HB.out.blk (by show 5 < 7; decide) sizeInt ?_; intro w1 f1 b1; obtain ⟨r1, r2⟩ := H.out.wrote (D' := countD D) HB.out HS.out f1 b1 rfl rfl; have R1 := Kp.mk r1; clear r1; have c51 := b1.at_ 5 rfl; have c31 := b1.at_ 3 rfl; have c41 := b1.at_ 4 rfl)
    go_quiet (fail)
    rename_i nq
    go_wp2_with (go_at_call 32; refine (crash_any (R1.out.no ((Fr.refl No w1).drewN _)) hl).mono ?_; rintro e w2 ⟨rfl, h2, f2⟩)
    go_ret
    exact ⟨by rw [HF.out.1]; rfl, by rw [HF.out.2]; exact h2, (r2.drewN nq).trans f2 (fun i e => .inl e)⟩
  · have hne : (D.cutAt != D.count + 1) = true := by simpa using he
    have HF : Kp (failB D = false ∧ failD D = countD D) := ⟨by unfold failB; simpa using he, by unfold failD; rw [if_neg he]⟩
    clear he
    go_enter Try.func70, Try.ntmps70
    go_wp2_with ((with_reducible refine gate_store (t := 3) (p := 9) rfl ?_); refine ev_store rfl 3 _ _ rfl b 5 (.int .i64 (D.count + 1)) rfl rfl rfl 116 _ HB.out.blk (by show 5 < 7; decide) sizeInt ?_; intro w1 f1 b1; obtain ⟨r1, r2⟩ := H.out.wrote (D' := countD D) HB.out HS.out f1 b1 rfl rfl; have R1 := Kp.mk r1; clear r1; have c51 := b1.at_ 5 rfl; have c31 := b1.at_ 3 rfl; have c41 := b1.at_ 4 rfl)
    go_quiet (fail)
    rename_i nq
    go_wp2_with fail
    go_ret
    exact ⟨by rw [HF.out.1]; rfl, by rw [HF.out.2]; exact R1.out.no ((Fr.refl No w1).drewN _), r2.drewN nq⟩

set_option maxHeartbeats 4000000 in
set_option maxRecDepth 100000 in
theorem flush_any {w : World} {S : Nat → Prop} {b m : Nat} {D : DiskS} (h : Dk w S b m D) (h0 : 0 ≤ D.count) (h1 : D.count ≤ 1099511627776) (hl : D.wait.length ≤ 1099511627776) : Calls Try.prog 21 #[.pointer (some ⟨b, 0, none⟩)] w fun e w' => e = .returned (.int .i64 (flushD D).2) ∧ Dk w' S b m (flushD D).1 ∧ Fr S w w' := by
  have H := Kp.mk h
  obtain ⟨v, hv, hs⟩ := h.ex
  have c6 := hv.blk.at_ 6 rfl
  have CF := Kp.mk (fails_any h h0 h1 hl)
  clear h hs hv
  cases hd : D.down with
  | true =>
    rw [hd] at c6
    have HD : Kp (flushD D = (D, 7)) := ⟨by unfold flushD; rw [hd]; rfl⟩
    clear hd
    go_enter Try.func21, Try.ntmps21
    go_wp2_with fail
    go_ret
    exact ⟨by rw [HD.out]; rfl, by rw [HD.out]; exact H.out, Fr.refl _ _⟩
  | false =>
    rw [hd] at c6
    cases hf : failB D with
    | true =>
      rw [hf] at CF
      have HD : Kp (flushD D = (failD D, 7)) := ⟨by unfold flushD; rw [hd, hf]; rfl⟩
      clear hd hf
      go_enter Try.func21, Try.ntmps21
      go_wp2_with (go_at_call 70; refine CF.out.mono ?_; rintro e w2 ⟨rfl, h2, f2⟩)
      go_ret
      exact ⟨by rw [HD.out]; rfl, by rw [HD.out]; exact h2, f2⟩
    | false =>
      have HL : Kp (failD D = countD D) := ⟨by unfold failB at hf; unfold failD; rw [if_neg (by simpa using hf)]⟩
      rw [hf] at CF
      have HD : Kp (flushD D = (lastD (failD D), 0)) := ⟨by unfold flushD; rw [hd, hf]; rfl⟩
      clear hd hf
      go_enter Try.func21, Try.ntmps21
      go_wp2_with (first
        | (go_at_call 70; refine CF.out.mono ?_; rintro e w2 ⟨rfl, h2, f2⟩)
        | (go_at_call 71; refine (last_all h2 (by rw [HL.out]; exact hl)).mono ?_; rintro e w3 ⟨rfl, h3, f3⟩))
      go_ret
      exact ⟨by rw [HD.out]; rfl, by rw [HD.out]; exact h3, f2.trans f3 (fun i e => .inl e)⟩
end Go.Proofs.Ytaohfmmapammcaa.Pl
