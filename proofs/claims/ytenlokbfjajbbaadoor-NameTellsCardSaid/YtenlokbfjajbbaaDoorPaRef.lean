/- The document's answer on names, as plain data: it is the plain one. Conditions: sizes are bounded, the fuel is enough, as written out. -/
import Derived.Test.YtenlokbfjajbbaaDoorPNameTellsx3
import Derived.Test.YtenlokbfjajbbaaDoorPaWithin
set_option linter.unusedSimpArgs false
set_option linter.unusedVariables false
namespace Go.Proofs.YtenlokbfjajbbaaDoor.Pa
open Go Go.RowKit Go.Proofs.YtenlokbfjajbbaaDoorW.PrintWords Go.Proofs.YtenlokbfjajbbaaDoorW.PrintLast Go.Proofs.YtenlokbfjajbbaaDoorW.PrintMore Go.Proofs.YtenlokbfjajbbaaDoor.Nd Go.Proofs.YtenlokbfjajbbaaDoor.PNameTells

theorem bt_get (s : ByteArray) (i : Nat) (h : i < s.data.toList.length) : bt s (i : Int) = ((s.data.toList[i]'h).toNat : Int) := by
  have hs : i < s.size := by rw [Lib.size_eq]; exact h
  have := bt_at s (i : Int) (by simpa using hs)
  rw [← this]
  rfl
theorem u8_of {c : UInt8} (d : UInt8) (h : (c.toNat : Int) = (d.toNat : Int)) : c = d := UInt8.toNat_inj.1 (by omega)
theorem wrap_small {n : Int} (h0 : 0 ≤ n) (h1 : n ≤ 1099511627777) : wrap64 n = n := by unfold wrap64; omega

def tailB (s : ByteArray) : Bool := decide (1 ≤ s.size) && decide (s.size ≤ 16) && !(s.toList == [46]) && !(s.toList == [46, 46])
theorem ref_right_tail (s : ByteArray) : (if (s.size : Int) ≥ 1 then (if (s.size : Int) ≤ 16 then (if s.toList = ([46] : List UInt8) then (some false) else (some (s.toList != ([46, 46] : List UInt8)))) else (some false)) else (some false)) = some (tailB s) := by
  unfold tailB
  by_cases h1 : 1 ≤ s.size
  · rw [if_pos (by omega), decide_eq_true h1]
    by_cases h2 : s.size ≤ 16
    · rw [if_pos (by omega), decide_eq_true h2]
      by_cases h3 : s.toList = [46]
      · rw [if_pos h3, h3]; rfl
      · rw [if_neg h3]
        have : (s.toList == [46]) = false := by simpa using h3
        rw [this]; rfl
    · rw [if_neg (by omega), decide_eq_false h2]; rfl
  · rw [if_neg (by omega), decide_eq_false h1]; rfl
theorem ref_right_l (s : ByteArray) (hs : s.size ≤ 1099511627776) : ∀ (m i : Nat), i + m = s.size → ∀ k, m + 1 ≤ k → snapferryref09_Right.l0 k s i = some (!((s.data.toList.drop i).any badB) && tailB s)
  | 0, i, hi, k, hk => by
    obtain ⟨k, rfl⟩ : ∃ k', k = k' + 1 := ⟨k - 1, by omega⟩
    rw [snapferryref09_Right.l0, if_neg (by omega), ref_right_tail]
    have : s.data.toList.drop i = [] := List.drop_of_length_le (by rw [← Lib.size_eq]; omega)
    rw [this]; simp
  | m + 1, i, hi, k, hk => by
    obtain ⟨k, rfl⟩ : ∃ k', k = k' + 1 := ⟨k - 1, by omega⟩
    have hl : i < s.data.toList.length := by rw [← Lib.size_eq]; omega
    have ih := ref_right_l s hs m (i + 1) (by omega) k (by omega)
    rw [snapferryref09_Right.l0, if_pos (by omega), if_pos (by omega), bt_get s i hl, List.drop_eq_getElem_cons hl, List.any_cons]
    generalize s.data.toList[i]'hl = c
    by_cases h1 : c = 47
    · subst h1; rfl
    · have n1 : ¬ ((c.toNat : Int) = 47) := fun h => h1 (u8_of 47 h)
      rw [if_neg n1]
      by_cases h2 : c = 0
      · subst h2; rfl
      · have n2 : ¬ ((c.toNat : Int) = 0) := fun h => h2 (u8_of 0 h)
        have hb : badB c = false := by simp [badB, h1, h2]
        rw [if_neg n2, wrap_small (by omega) (by omega), hb, Bool.false_or]
        exact ih
theorem ref_right (s : ByteArray) (hs : s.size ≤ 1099511627776) (k : Nat) (hk : s.size + 1 ≤ k) : snapferryref09_Right.f k s = some (nameB s) := by
  have h := ref_right_l s hs s.size 0 (by omega) k hk
  rw [snapferryref09_Right.f]
  have e : ((0 : Nat) : Int) = 0 := rfl
  rw [e] at h
  rw [h, List.drop_zero]
  unfold tailB nameB
  cases s.data.toList.any badB <;> cases decide (1 ≤ s.size) <;> cases decide (s.size ≤ 16) <;> rfl

/-- What is left to cut from a place on. -/
def remL (l : List UInt8) (i : Nat) : List ByteArray := if i ≤ l.length then (cutL (l.drop i)).map ba else []
def resP (out P : List ByteArray) : List ByteArray × Int := if P.all nameB = true then (if 8 < (out ++ P).length then ([], 14) else (out ++ P, 0)) else ([], 14)
theorem resP_cons (out P : List ByteArray) (x : ByteArray) : resP out (x :: P) = if nameB x = true then resP (out ++ [x]) P else ([], 14) := by
  unfold resP
  rw [List.all_cons]
  cases nameB x <;> simp
theorem rem_piece {l : List UInt8} {f i : Nat} (hfi : f ≤ i) (hi : i ≤ l.length) (hno : ∀ j, f ≤ j → j < i → ∀ h : j < l.length, l[j]'h ≠ 47) (he : i = l.length ∨ ∃ h : i < l.length, l[i]'h = 47) : remL l f = ba ((l.drop f).take (i - f)) :: remL l (i + 1) := by
  have hn : 47 ∉ (l.drop f).take (i - f) := by
    intro hm
    obtain ⟨j, hj, he⟩ := List.getElem_of_mem hm
    rw [List.length_take, List.length_drop] at hj
    rw [List.getElem_take, List.getElem_drop] at he
    exact hno (f + j) (by omega) (by omega) (by omega) he
  unfold remL
  rw [if_pos (by omega)]
  rcases he with rfl | ⟨h, h47⟩
  · rw [if_neg (by omega)]
    have : (l.drop f).take (l.length - f) = l.drop f := List.take_of_length_le (by rw [List.length_drop]; exact Nat.le_refl _)
    rw [this] at hn ⊢
    rw [cut_plain hn]; rfl
  · rw [if_pos (by omega)]
    have : l.drop f = (l.drop f).take (i - f) ++ 47 :: l.drop (i + 1) := by
      conv => lhs; rw [← List.take_append_drop (i - f) (l.drop f)]
      rw [List.drop_drop, show f + (i - f) = i by omega, List.drop_eq_getElem_cons h, h47]
    conv => lhs; rw [this, cut_append hn]
    rfl
theorem ext_piece (s : ByteArray) (f i : Nat) : s.extract (f : Int).toNat (i : Int).toNat = ba ((s.data.toList.drop f).take (i - f)) := by
  rw [← ba_data (s.extract (f : Int).toNat (i : Int).toNat), Lib.extract_data]
  simp

theorem ref_split_l (s : ByteArray) (hs : s.size ≤ 1099511627775) : ∀ (m i : Nat), i + m = s.size + 1 → ∀ (out : List ByteArray) (f k : Nat), 2 * m + s.size + 3 ≤ k → f ≤ i → out.length ≤ i → (i = s.size + 1 → f = s.size + 1) →
    (∀ j, f ≤ j → j < i → ∀ h : j < s.data.toList.length, s.data.toList[j]'h ≠ 47) → snapferryref09_Split.l0 k s out f i = some (resP out (remL s.data.toList f))
  | 0, i, hi, out, f, k, hk, hfi, ho, hf, hno => by
    obtain ⟨k, rfl⟩ : ∃ k', k = k' + 1 := ⟨k - 1, by omega⟩
    have hfz := hf (by omega)
    rw [snapferryref09_Split.l0, if_neg (by omega)]
    have : remL s.data.toList f = [] := by unfold remL; rw [if_neg (by rw [← Lib.size_eq]; omega)]
    rw [this]
    unfold resP
    rw [List.all_nil, if_pos rfl, List.append_nil]
    by_cases h8 : 8 < out.length
    · rw [if_pos (by omega), if_pos h8]
    · rw [if_neg (by omega), if_neg h8]
  | m + 1, i, hi, out, f, k, hk, hfi, ho, hf, hno => by
    obtain ⟨k, rfl⟩ : ∃ k', k = k' + 1 := ⟨k - 1, by omega⟩
    obtain ⟨k, rfl⟩ : ∃ k', k = k' + 1 := ⟨k - 1, by omega⟩
    have hsl := Lib.size_eq s
    -- the piece that ends here
    have piece : (i = s.data.toList.length ∨ ∃ h : i < s.data.toList.length, s.data.toList[i]'h = 47) → snapferryref09_Split.j2 (k + 1) s out f i false = some (resP out (remL s.data.toList f)) := fun he => by
      have hx : (ba ((s.data.toList.drop f).take (i - f))).size ≤ s.size := by rw [Lib.size_eq]; show ((s.data.toList.drop f).take (i - f)).length ≤ _; rw [List.length_take, List.length_drop]; omega
      have hr := ref_right (ba ((s.data.toList.drop f).take (i - f))) (by omega) k (by omega)
      rw [snapferryref09_Split.j2, if_neg (by simp), if_pos (by omega), if_pos (by omega), if_pos (by omega), ext_piece, hr, rem_piece hfi (by omega) hno he, resP_cons]
      show (if nameB _ = true then _ else _) = _
      by_cases hb : nameB (ba ((s.data.toList.drop f).take (i - f))) = true
      · rw [if_pos hb, if_pos hb, if_pos (by omega), wrap_small (by omega) (by omega)]
        exact ref_split_l s hs m (i + 1) (by omega) _ (i + 1) k (by omega) (Nat.le_refl _) (by simp; omega) (fun h => h) (fun j h1 h2 => by omega)
      · rw [if_neg hb, if_neg hb]
    rw [snapferryref09_Split.l0, if_pos (by omega)]
    by_cases hlt : i < s.size
    · have hl : i < s.data.toList.length := by omega
      rw [if_pos (by omega), if_pos (by omega), bt_get s i hl]
      by_cases h47 : s.data.toList[i]'hl = 47
      · have e : (((s.data.toList[i]'hl).toNat : Int) != 47) = false := by rw [h47]; rfl
        rw [e]
        exact piece (.inr ⟨hl, h47⟩)
      · have e : (((s.data.toList[i]'hl).toNat : Int) != 47) = true := by
          rw [bne_iff_ne]
          intro h
          exact h47 (u8_of 47 h)
        rw [e, snapferryref09_Split.j2, if_pos rfl, wrap_small (by omega) (by omega)]
        exact ref_split_l s hs m (i + 1) (by omega) out f k (by omega) (by omega) (by omega) (by omega) (fun j h1 h2 h => by
          by_cases e1 : j = i
          · subst e1; exact h47
          · exact hno j h1 (by omega) h)
    · rw [if_neg (by omega)]
      exact piece (.inl (by omega))
theorem ref_split (s : ByteArray) (hs : s.size ≤ 1099511627775) (k : Nat) (hk : 3 * s.size + 5 ≤ k) : snapferryref09_Split.f k s = some (splitP s) := by
  rw [snapferryref09_Split.f, Lib.toList_data]
  unfold splitP
  by_cases h0 : s.data.toList = [47]
  · rw [if_pos h0, if_pos h0]
  · rw [if_neg h0, if_neg h0]
    obtain ⟨k, rfl⟩ : ∃ k', k = k' + 1 := ⟨k - 1, by omega⟩
    have hsl := Lib.size_eq s
    by_cases hz : s.size = 0
    · rw [if_pos (by omega), snapferryref09_Split.j0, if_pos rfl, if_neg]
      have : s.data.toList = [] := List.eq_nil_of_length_eq_zero (by omega)
      rw [this]; simp
    · rw [if_neg (by omega), if_pos (by omega)]
      cases hd : s.data.toList with
      | nil => rw [hd, List.length_nil] at hsl; omega
      | cons c r =>
        have hl : 0 < s.data.toList.length := by omega
        have hb := bt_get s 0 hl
        have e0 : ((0 : Nat) : Int) = 0 := rfl
        rw [e0] at hb
        have hc0 : s.data.toList[0]'hl = c := by simp [hd]
        rw [hb, hc0]
        by_cases hc : c = 47
        · subst hc
          have e : (((47 : UInt8).toNat : Int) != 47) = false := rfl
          have h := ref_split_l s hs s.size 1 (by omega) [] 1 k (by omega) (Nat.le_refl _) (by simp) (by omega) (fun j h1 h2 => by omega)
          have e1 : ((1 : Nat) : Int) = 1 := rfl
          rw [e1] at h
          rw [e, snapferryref09_Split.j0, if_neg (by simp), h]
          have hrem : remL s.data.toList 1 = (cutL r).map ba := by
            unfold remL
            rw [if_pos (by omega), hd]; rfl
          rw [hrem]
          unfold resP
          simp only [List.nil_append, List.head?_cons, List.tail_cons, true_and, List.length_map]
          by_cases ha : ((cutL r).map ba).all nameB = true
          · by_cases h8 : (cutL r).length ≤ 8
            · rw [if_pos ha, if_neg (by omega), if_pos ⟨h8, ha⟩]
            · rw [if_pos ha, if_pos (by omega), if_neg (fun h => h8 h.1)]
          · rw [if_neg ha, if_neg (fun h => ha h.2)]
        · have e : ((c.toNat : Int) != 47) = true := by
            rw [bne_iff_ne]
            intro h
            exact hc (u8_of 47 h)
          rw [e, snapferryref09_Split.j0, if_pos rfl, if_neg (fun h => hc (by simpa using h.1))]

def flatL (xs : List ByteArray) : List UInt8 := xs.flatMap (fun x => 47 :: x.data.toList)
theorem flat_path : ∀ {xs : List ByteArray}, xs ≠ [] → flatL xs = pathL xs
  | [], h => absurd rfl h
  | [x], _ => by simp [flatL, pathL, glue]
  | x :: y :: r, _ => by
    have ih := flat_path (xs := y :: r) (by simp)
    rw [pathL] at ih
    rw [pathL, List.map_cons, glue_cons (by simp)]
    show (47 :: x.data.toList) ++ flatL (y :: r) = _
    rw [ih]
    rfl
theorem ref_join_l (xs : List ByteArray) (hx : ∀ x ∈ xs, x.size ≤ 1099511627776) (hn : xs.length ≤ 1048576) : ∀ (m i : Nat), i + m = xs.length → ∀ (s : ByteArray) (k : Nat), m + 1099511627778 ≤ k → s.size ≤ i * 1099511627777 →
    snapferryref09_Join.l0 k xs s i = some (if (xs.drop i).all nameB = true then (if s.data.toList ++ flatL (xs.drop i) = [] then (⟨#[47]⟩, 0) else (ba (s.data.toList ++ flatL (xs.drop i)), 0)) else (⟨#[]⟩, 14))
  | 0, i, hi, s, k, hk, hs => by
    obtain ⟨k, rfl⟩ : ∃ k', k = k' + 1 := ⟨k - 1, by omega⟩
    have hd : xs.drop i = [] := List.drop_of_length_le (by omega)
    rw [snapferryref09_Join.l0, if_neg (by omega), hd, List.all_nil, if_pos rfl]
    have hf : flatL [] = [] := rfl
    rw [hf, List.append_nil, Lib.toList_data]
    by_cases h0 : s.data.toList = []
    · rw [if_pos h0, if_pos h0]
    · rw [if_neg h0, if_neg h0]
  | m + 1, i, hi, s, k, hk, hs => by
    obtain ⟨k, rfl⟩ : ∃ k', k = k' + 1 := ⟨k - 1, by omega⟩
    have hl : i < xs.length := by omega
    have hd := List.drop_eq_getElem_cons hl
    have hr : rdOf ByteArray.empty xs (i : Int) = xs[i] := by unfold rdOf; rw [Int.toNat_natCast, List.getD_eq_getElem?_getD, List.getElem?_eq_getElem hl]; rfl
    have hxi := hx xs[i] (List.getElem_mem hl)
    have ih := ref_join_l xs hx hn m (i + 1) (by omega)
    rw [snapferryref09_Join.l0, if_pos (by omega), if_pos (by omega), hr, hd, List.all_cons]
    generalize xs[i] = x at hxi
    rw [ref_right x (by omega) k (by omega)]
    show (if nameB x = true then _ else _) = _
    by_cases hb : nameB x = true
    · have hm : i * 1099511627777 ≤ 1048576 * 1099511627777 := Nat.mul_le_mul_right _ (by omega)
      have s1 : (s ++ (⟨#[47]⟩ : ByteArray)).size = s.size + 1 := by rw [ByteArray.size_append]; rfl
      have s2 : (s ++ (⟨#[47]⟩ : ByteArray) ++ x).size = s.size + 1 + x.size := by rw [ByteArray.size_append, s1]
      have e1 : (i + 1) * 1099511627777 = i * 1099511627777 + 1099511627777 := by omega
      rw [if_pos hb, if_pos (by omega), if_pos (by rw [s1]; omega), wrap_small (by omega) (by omega)]
      have h := ih (s ++ (⟨#[47]⟩ : ByteArray) ++ x) k (by omega) (by rw [s2, e1]; omega)
      have e2 : ((i + 1 : Nat) : Int) = (i : Int) + 1 := by omega
      rw [e2] at h
      rw [h, hb, Bool.true_and]
      have e3 : (s ++ (⟨#[47]⟩ : ByteArray) ++ x).data.toList ++ flatL (xs.drop (i + 1)) = s.data.toList ++ flatL (x :: xs.drop (i + 1)) := by
        simp [flatL]
      rw [e3]
    · have hb' : nameB x = false := by simpa using hb
      rw [if_neg hb, hb', Bool.false_and, if_neg (by simp)]
theorem ref_join (xs : List ByteArray) (hx : ∀ x ∈ xs, x.size ≤ 1099511627776) (k : Nat) (hk : 1099511627800 ≤ k) : snapferryref09_Join.f k xs = some (joinP xs) := by
  rw [snapferryref09_Join.f]
  by_cases h8 : xs.length ≤ 8
  · have h := ref_join_l xs hx (by omega) xs.length 0 (by omega) ⟨#[]⟩ k (by omega) (Nat.zero_le _)
    have e0 : ((0 : Nat) : Int) = 0 := rfl
    rw [e0] at h
    rw [if_neg (by omega), h, List.drop_zero]
    have e1 : (⟨#[]⟩ : ByteArray).data.toList ++ flatL xs = flatL xs := rfl
    rw [e1]
    by_cases ha : xs.all nameB = true
    · have hj : joinP xs = (ba (pathL xs), 0) := by rw [joinP, if_pos ⟨h8, ha⟩]
      rw [hj, if_pos ha]
      by_cases hn : xs = []
      · subst hn; rfl
      · have hf := flat_path hn
        rw [hf, if_neg (by simp [pathL])]
    · have hj : joinP xs = (⟨#[]⟩, 14) := by rw [joinP, if_neg (fun h => ha h.2)]
      rw [hj, if_neg ha]
  · have hj : joinP xs = (⟨#[]⟩, 14) := by rw [joinP, if_neg (fun h => h8 h.1)]
    rw [hj, if_pos (by omega)]

theorem ref_parent (s : ByteArray) (hs : s.size ≤ 1099511627775) (k : Nat) (hk : 3 * 1099511627776 + 5 ≤ k) : snapferryref09_Parent.f k s = some (parentP s) := by
  rw [snapferryref09_Parent.f, ref_split s hs k (by omega)]
  have hsc := split_code s
  obtain ⟨hn1, hn2⟩ := split_names s
  show (if (splitP s).2 = 0 then _ else _) = _
  rcases hsc with h | h
  · rw [if_pos h]
    obtain ⟨g1, g2, g3⟩ := (split_ok s _).1 (split_zero h)
    by_cases hx : (splitP s).1 = []
    · have hp : parentP s = (⟨#[]⟩, ⟨#[]⟩, 17) := by rw [parentP, if_neg (by simp [h]), if_pos hx]
      rw [hp, if_pos (by rw [hx]; rfl)]
    · have hp : parentP s = ((joinP (splitP s).1.dropLast).1, (splitP s).1.getLastD ByteArray.empty, (joinP (splitP s).1.dropLast).2) := by rw [parentP, if_neg (by simp [h]), if_neg hx]
      have hp0 := List.length_pos_iff.2 hx
      have e1 : (((splitP s).1.length : Int) - 1).toNat = (splitP s).1.length - 1 := by omega
      have e2 : (splitP s).1.dropLast = (splitP s).1.take ((splitP s).1.length - 1) := List.dropLast_eq_take
      have e3 : rdOf ByteArray.empty (splitP s).1 (((splitP s).1.length : Int) - 1) = (splitP s).1.getLastD ByteArray.empty := by
        unfold rdOf
        rw [e1, List.getLastD_eq_getLast?, List.getLast?_eq_getElem?, List.getD_eq_getElem?_getD]
      have hj := ref_join ((splitP s).1.take ((splitP s).1.length - 1)) (fun x hx => by
        have := hn2 x (List.mem_of_mem_take hx)
        rw [Lib.size_eq]; omega) k (by omega)
      have hz : (joinP (splitP s).1.dropLast).2 = 0 := by
        rw [joinP, if_pos ⟨by rw [List.length_dropLast]; omega, List.all_eq_true.2 (fun x hx => List.all_eq_true.1 g2 x (List.dropLast_subset _ hx))⟩]
      rw [hp, if_neg (by omega), wrap_small (by omega) (by omega), if_pos (by omega), if_pos (by omega), e1, hj]
      show (if _ then _ else _) = _
      rw [if_pos (by omega), e3, hz, e2]
  · have hp : parentP s = (⟨#[]⟩, ⟨#[]⟩, 14) := by rw [parentP, h, if_pos (by simp)]
    rw [hp, h, if_neg (by decide)]

theorem ref_within_l (xs ys : List ByteArray) (hl : xs.length ≤ ys.length) (hn : ys.length ≤ 1048576) : ∀ (m i : Nat), i + m = xs.length → ∀ k, m + 1 ≤ k → snapferryref09_Within.l0 k xs ys i = some (decide (xs.drop i <+: ys.drop i))
  | 0, i, hi, k, hk => by
    obtain ⟨k, rfl⟩ : ∃ k', k = k' + 1 := ⟨k - 1, by omega⟩
    have hd : xs.drop i = [] := List.drop_of_length_le (by omega)
    rw [snapferryref09_Within.l0, if_neg (by omega), hd, decide_eq_true List.nil_prefix]
  | m + 1, i, hi, k, hk => by
    obtain ⟨k, rfl⟩ : ∃ k', k = k' + 1 := ⟨k - 1, by omega⟩
    have h1 : i < xs.length := by omega
    have h2 : i < ys.length := by omega
    have ih := ref_within_l xs ys hl hn m (i + 1) (by omega) k (by omega)
    have hr1 : rdOf ByteArray.empty xs (i : Int) = xs[i] := by unfold rdOf; rw [Int.toNat_natCast, List.getD_eq_getElem?_getD, List.getElem?_eq_getElem h1]; rfl
    have hr2 : rdOf ByteArray.empty ys (i : Int) = ys[i] := by unfold rdOf; rw [Int.toNat_natCast, List.getD_eq_getElem?_getD, List.getElem?_eq_getElem h2]; rfl
    rw [snapferryref09_Within.l0, if_pos (by omega), if_pos (by omega), if_pos (by omega), hr1, hr2, List.drop_eq_getElem_cons h1, List.drop_eq_getElem_cons h2, Lib.toList_data, Lib.toList_data]
    have e : ((i + 1 : Nat) : Int) = (i : Int) + 1 := by omega
    rw [e] at ih
    by_cases he : xs[i].data.toList = ys[i].data.toList
    · have he2 : xs[i] = ys[i] := by rw [← ba_data xs[i], ← ba_data ys[i], he]
      rw [if_pos he, wrap_small (by omega) (by omega), ih, he2]
      congr 1
      rw [Bool.eq_iff_iff, decide_eq_true_eq, decide_eq_true_eq, List.cons_prefix_cons]
      simp
    · rw [if_neg he, decide_eq_false]
      rw [List.cons_prefix_cons]
      exact fun h => he (by rw [h.1])
theorem ref_within (a b : ByteArray) (ha : a.size ≤ 1099511627775) (hb : b.size ≤ 1099511627775) (k : Nat) (hk : 3 * 1099511627776 + 50 ≤ k) : snapferryref09_Within.f k a b = some (withinB a b) := by
  rw [snapferryref09_Within.f, ref_split a ha k (by omega), ref_split b hb k (by omega)]
  show (if (splitP a).2 = 0 then (if (splitP b).2 = 0 then _ else _) else _) = _
  obtain ⟨n1, _⟩ := split_names a
  obtain ⟨n2, _⟩ := split_names b
  obtain ⟨k, rfl⟩ : ∃ k', k = k' + 1 := ⟨k - 1, by omega⟩
  unfold withinB
  by_cases h1 : (splitP a).2 = 0
  · rw [if_pos h1, decide_eq_true h1]
    by_cases h2 : (splitP b).2 = 0
    · rw [if_pos h2, decide_eq_true h2, snapferryref09_Within.j0]
      by_cases hl : (splitP a).1.length ≤ (splitP b).1.length
      · have hd : decide (((splitP a).1.length : Int) > ((splitP b).1.length : Int)) = false := decide_eq_false (by omega)
        have h := ref_within_l (splitP a).1 (splitP b).1 hl (by omega) (splitP a).1.length 0 (by omega) k (by omega)
        have e0 : ((0 : Nat) : Int) = 0 := rfl
        rw [e0] at h
        rw [hd, if_neg (by simp), h]
        simp
      · have hd : decide (((splitP a).1.length : Int) > ((splitP b).1.length : Int)) = true := decide_eq_true (by omega)
        rw [hd, if_pos rfl, decide_eq_false (fun h => hl h.length_le)]
        rfl
    · rw [if_neg h2, decide_eq_false h2, snapferryref09_Within.j0, if_pos rfl]
      rfl
  · rw [if_neg h1, decide_eq_false h1, snapferryref09_Within.j0, if_pos rfl]
    rfl
theorem ref_texts_l (xs ys : List ByteArray) (hl : xs.length = ys.length) (hn : ys.length ≤ 1048576) : ∀ (m i : Nat), i + m = xs.length → ∀ k, m + 1 ≤ k → snapferryref06_Texts.l0 k xs ys i = some (decide (xs.drop i = ys.drop i))
  | 0, i, hi, k, hk => by
    obtain ⟨k, rfl⟩ : ∃ k', k = k' + 1 := ⟨k - 1, by omega⟩
    have hd : xs.drop i = [] := List.drop_of_length_le (by omega)
    have hd2 : ys.drop i = [] := List.drop_of_length_le (by omega)
    rw [snapferryref06_Texts.l0, if_neg (by omega), hd, hd2, decide_eq_true rfl]
  | m + 1, i, hi, k, hk => by
    obtain ⟨k, rfl⟩ : ∃ k', k = k' + 1 := ⟨k - 1, by omega⟩
    have h1 : i < xs.length := by omega
    have h2 : i < ys.length := by omega
    have ih := ref_texts_l xs ys hl hn m (i + 1) (by omega) k (by omega)
    have hr1 : rdOf ByteArray.empty xs (i : Int) = xs[i] := by unfold rdOf; rw [Int.toNat_natCast, List.getD_eq_getElem?_getD, List.getElem?_eq_getElem h1]; rfl
    have hr2 : rdOf ByteArray.empty ys (i : Int) = ys[i] := by unfold rdOf; rw [Int.toNat_natCast, List.getD_eq_getElem?_getD, List.getElem?_eq_getElem h2]; rfl
    rw [snapferryref06_Texts.l0, if_pos (by omega), if_pos (by omega), if_pos (by omega), hr1, hr2, List.drop_eq_getElem_cons h1, List.drop_eq_getElem_cons h2, Lib.toList_data, Lib.toList_data]
    have e : ((i + 1 : Nat) : Int) = (i : Int) + 1 := by omega
    rw [e] at ih
    by_cases he : xs[i].data.toList = ys[i].data.toList
    · have he2 : xs[i] = ys[i] := by rw [← ba_data xs[i], ← ba_data ys[i], he]
      rw [if_pos he, wrap_small (by omega) (by omega), ih, he2]
      congr 1
      rw [Bool.eq_iff_iff, decide_eq_true_eq, decide_eq_true_eq, List.cons.injEq]
      simp
    · rw [if_neg he, decide_eq_false]
      rw [List.cons.injEq]
      exact fun h => he (by rw [h.1])
theorem ref_texts (xs : List ByteArray) (hn : xs.length ≤ 1048576) (k : Nat) (hk : 1048577 ≤ k) : snapferryref06_Texts.f k xs xs = some true := by
  have h := ref_texts_l xs xs rfl hn xs.length 0 (by omega) k (by omega)
  have e0 : ((0 : Nat) : Int) = 0 := rfl
  rw [e0] at h
  rw [snapferryref06_Texts.f, if_pos rfl, h, decide_eq_true rfl]
/-- A row of texts as the printed contracts take it. -/
theorem strs_kd {w : World} {A : Option Addr} {c : Nat} {xs : List ByteArray} (h : Go.Proofs.YtenlokbfjajbbaaDoor.Ev.StrS w (.slice A xs.length c) xs) : Kd.C Kd.string w A xs.length xs ∧ xs.length ≤ c := by
  obtain ⟨A', c', he, h1, h2, h3⟩ := h.out
  cases he
  refine ⟨Kd.C_of_reads (d := ByteArray.empty) ⟨rfl, by omega, fun hp => ?_⟩, h1⟩
  obtain ⟨b, o, rfl, hb, hc⟩ := h3 hp
  refine ⟨_, rfl, fun j hj => ?_⟩
  have := hc j hj
  rw [Addr.add_lit]
  exact this
end Go.Proofs.YtenlokbfjajbbaaDoor.Pa
