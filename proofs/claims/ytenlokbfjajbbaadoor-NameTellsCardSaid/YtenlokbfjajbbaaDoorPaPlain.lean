/- Paths as plain data: cut at slashes, glued again. Plain definitions and laws, no program. -/
import Derived.Test.YtenlokbfjajbbaaDoorNodeDefs
import Derived.Lib.Split
import Derived.Lib.SplitLaws
import Derived.Lib.Strings
import Derived.Lib.Join
set_option linter.unusedSimpArgs false
set_option linter.unusedVariables false
namespace Go.Proofs.YtenlokbfjajbbaaDoor.Pa
open Go Go.RowKit Go.Proofs.YtenlokbfjajbbaaDoor.Nd

/-- Bytes cut at each slash. -/
def cutL : List UInt8 → List (List UInt8)
  | [] => [[]]
  | c :: l => if c = 47 then [] :: cutL l else (c :: (cutL l).headD []) :: (cutL l).tail
theorem cutL_ne : ∀ l, cutL l ≠ []
  | [] => by simp [cutL]
  | c :: l => by unfold cutL; split <;> simp
/-- Pieces glued by slashes. -/
def glue : List (List UInt8) → List UInt8
  | [] => []
  | [x] => x
  | x :: y :: r => x ++ 47 :: glue (y :: r)
theorem glue_cons {x : List UInt8} {r : List (List UInt8)} (h : r ≠ []) : glue (x :: r) = x ++ 47 :: glue r := by
  cases r with
  | nil => exact absurd rfl h
  | cons y r => rfl
theorem glue_head {c : UInt8} {h : List UInt8} {t : List (List UInt8)} : glue ((c :: h) :: t) = c :: glue (h :: t) := by
  cases t <;> rfl
theorem head_tail {l : List (List UInt8)} (h : l ≠ []) : l.headD [] :: l.tail = l := by
  cases l with
  | nil => exact absurd rfl h
  | cons x r => rfl
theorem glue_cut : ∀ l, glue (cutL l) = l
  | [] => rfl
  | c :: l => by
    unfold cutL
    split
    · rename_i h
      rw [glue_cons (cutL_ne l), glue_cut l, h]; rfl
    · rw [glue_head, head_tail (cutL_ne l), glue_cut l]
theorem cut_plain : ∀ {x : List UInt8}, 47 ∉ x → cutL x = [x]
  | [], _ => rfl
  | c :: x, h => by
    rw [List.mem_cons, not_or] at h
    unfold cutL
    rw [if_neg (fun e => h.1 e.symm), cut_plain h.2]
    rfl
theorem cut_append : ∀ {x l : List UInt8}, 47 ∉ x → cutL (x ++ 47 :: l) = x :: cutL l
  | [], l, _ => by simp [cutL]
  | c :: x, l, h => by
    rw [List.mem_cons, not_or] at h
    have e : cutL (c :: (x ++ 47 :: l)) = (c :: (cutL (x ++ 47 :: l)).headD []) :: (cutL (x ++ 47 :: l)).tail := by rw [cutL, if_neg (fun e => h.1 e.symm)]
    rw [List.cons_append, e, cut_append h.2]
    rfl
theorem cut_glue : ∀ {xs : List (List UInt8)}, xs ≠ [] → (∀ x ∈ xs, 47 ∉ x) → cutL (glue xs) = xs
  | [], h, _ => absurd rfl h
  | [x], _, h => cut_plain (h x (by simp))
  | x :: y :: r, _, h => by
    rw [glue_cons (by simp), cut_append (h x (by simp)), cut_glue (by simp) (fun z hz => h z (List.mem_cons_of_mem _ hz))]
theorem glue_append {xs ys : List (List UInt8)} (hx : xs ≠ []) (hy : ys ≠ []) : glue (xs ++ ys) = glue xs ++ 47 :: glue ys := by
  induction xs with
  | nil => exact absurd rfl hx
  | cons x r ih =>
    by_cases hr : r = []
    · subst hr
      rw [List.singleton_append, glue_cons hy]; rfl
    · rw [List.cons_append, glue_cons (by simp [hr]), glue_cons hr, ih hr]
      simp
theorem glue_join : ∀ xs, Lib.join xs [47] = glue xs
  | [] => rfl
  | [x] => by simp [Lib.join, glue, List.intercalate]
  | x :: y :: r => by
    have ih := glue_join (y :: r)
    rw [glue_cons (by simp), ← ih]
    simp [Lib.join, List.intercalate, List.intersperse]
theorem first_cut (l : List UInt8) : 47 ∉ l ∨ ∃ a b, l = a ++ 47 :: b ∧ 47 ∉ a := by
  induction l with
  | nil => left; simp
  | cons c l ih =>
    by_cases h : c = 47
    · right; exact ⟨[], l, by rw [h]; rfl, by simp⟩
    · rcases ih with ih | ⟨a, b, rfl, ha⟩
      · left; simp only [List.mem_cons, not_or]; exact ⟨fun e => h e.symm, ih⟩
      · right
        refine ⟨c :: a, b, rfl, ?_⟩
        simp only [List.mem_cons, not_or]; exact ⟨fun e => h e.symm, ha⟩
theorem index_miss : ∀ {l : List UInt8}, 47 ∉ l → Lib.index l [47] = -1
  | [], _ => rfl
  | c :: l, h => by
    rw [List.mem_cons, not_or] at h
    have h1 : ([47] : List UInt8).isPrefixOf (c :: l) = false := by simp [List.isPrefixOf, h.1]
    rw [Lib.index, h1, index_miss h.2]
    rfl
theorem index_hit : ∀ {a b : List UInt8}, 47 ∉ a → Lib.index (a ++ 47 :: b) [47] = a.length
  | [], b, _ => by simp [Lib.index, List.isPrefixOf]
  | c :: a, b, h => by
    rw [List.mem_cons, not_or] at h
    have h1 : ([47] : List UInt8).isPrefixOf (c :: (a ++ 47 :: b)) = false := by simp [List.isPrefixOf, h.1]
    rw [List.cons_append, Lib.index, h1, index_hit h.2]
    have h2 : ((a.length : Int) == -1) = false := beq_eq_false_iff_ne.2 (by omega)
    rw [h2]
    simp
abbrev ba (l : List UInt8) : ByteArray := ⟨l.toArray⟩
theorem ba_data (s : ByteArray) : ba s.data.toList = s := rfl
theorem ba_list (l : List UInt8) : (ba l).data.toList = l := rfl
/-- The shelf's split is the cut. -/
theorem split_cut : ∀ (k : Nat) (s : ByteArray), s.size ≤ k → Lib.splitB ⟨#[47]⟩ 0 (Lib.countB s ⟨#[47]⟩) s = (cutL s.data.toList).map ba := by
  intro k
  induction k using Nat.strongRecOn with
  | ind k ih =>
    intro s hk
    rcases first_cut s.data.toList with h | ⟨a, b, h, ha⟩
    · have hi : Lib.indexB s ⟨#[47]⟩ = -1 := index_miss h
      rw [Lib.splitB_miss _ _ _ _ hi, cut_plain h]
      rfl
    · have hi : Lib.indexB s ⟨#[47]⟩ = (a.length : Int) := by
        show Lib.index s.data.toList [47] = _
        rw [h]; exact index_hit ha
      have hsz : s.size = a.length + 1 + b.length := by
        have : s.data.toList.length = s.size := by rw [Array.length_toList]; rfl
        rw [← this, h]; simp; omega
      have h1 : (⟨#[47]⟩ : ByteArray).size = 1 := rfl
      rw [Lib.countB_hit s ⟨#[47]⟩ a.length (Nat.le_refl 1) hi, Nat.add_comm 1, Lib.splitB_hit _ _ _ _ _ hi, h, cut_append ha]
      have e2 : (s.extract (a.length + (⟨#[47]⟩ : ByteArray).size) s.size).data.toList = b := by
        rw [h1, Lib.extract_to_end, h]
        simp
      have e1 : s.extract 0 (a.length + 0) = ba a := by
        have : (s.extract 0 (a.length + 0)).data.toList = a := by rw [Lib.extract_from_zero, h]; simp
        rw [← ba_data (s.extract 0 (a.length + 0)), this]
      have hs2 : (s.extract (a.length + (⟨#[47]⟩ : ByteArray).size) s.size).size = b.length := by
        have : (s.extract (a.length + (⟨#[47]⟩ : ByteArray).size) s.size).data.toList.length = b.length := by rw [e2]
        rw [← this, Array.length_toList]; rfl
      rw [ih b.length (by omega) _ (by rw [hs2]; exact Nat.le_refl _), e2, e1]
      rfl

/-- A path's names, and the error's number. -/
def splitP (s : ByteArray) : List ByteArray × Int :=
  if s.data.toList = [47] then ([], 0)
  else if s.data.toList.head? = some 47 ∧ (cutL s.data.toList.tail).length ≤ 8 ∧ ((cutL s.data.toList.tail).map ba).all nameB = true then ((cutL s.data.toList.tail).map ba, 0)
  else ([], 14)
/-- A path's bytes. -/
def pathL (xs : List ByteArray) : List UInt8 := 47 :: glue (xs.map (·.data.toList))
theorem name_parts {x : ByteArray} (h : nameB x = true) : 1 ≤ x.data.toList.length ∧ x.data.toList.length ≤ 16 ∧ 47 ∉ x.data.toList := by
  simp only [nameB, Bool.and_eq_true, decide_eq_true_eq, Bool.not_eq_true', List.any_eq_false] at h
  have hl : x.data.toList.length = x.size := by rw [Array.length_toList]; rfl
  refine ⟨by omega, by omega, fun hm => ?_⟩
  exact h.1.1.2 47 hm (by decide)
theorem names_map (xs : List ByteArray) : (xs.map (·.data.toList)).map ba = xs := by
  rw [List.map_map]
  conv => rhs; rw [← List.map_id xs]
  rfl
theorem glue_ne {xs : List ByteArray} (hn : xs ≠ []) (h : xs.all nameB = true) : glue (xs.map (·.data.toList)) ≠ [] := by
  cases xs with
  | nil => exact absurd rfl hn
  | cons x r =>
    have hx := (name_parts (List.all_eq_true.1 h x (by simp))).1
    intro he
    cases r with
    | nil =>
      have he : x.data.toList = [] := he
      rw [he] at hx; simp at hx
    | cons y r =>
      rw [List.map_cons, glue_cons (by simp)] at he
      simp at he
theorem split_ok (s : ByteArray) (xs : List ByteArray) : splitP s = (xs, 0) ↔ xs.length ≤ 8 ∧ xs.all nameB = true ∧ s.data.toList = pathL xs := by
  constructor
  · intro h
    unfold splitP at h
    split at h
    · rename_i h1
      simp only [Prod.mk.injEq, and_true] at h
      subst h
      exact ⟨by simp, by simp, h1⟩
    · split at h
      · rename_i h2
        simp only [Prod.mk.injEq, and_true] at h
        subst h
        refine ⟨by simpa using h2.2.1, h2.2.2, ?_⟩
        rw [pathL, List.map_map]
        have : (cutL s.data.toList.tail).map ((fun x => x.data.toList) ∘ ba) = cutL s.data.toList.tail := by
          conv => rhs; rw [← List.map_id (cutL s.data.toList.tail)]
          rfl
        rw [this, glue_cut]
        cases hd : s.data.toList with
        | nil => rw [hd] at h2; simp at h2
        | cons c r => rw [hd] at h2; simp at h2; rw [h2.1]; rfl
      · simp at h
  · rintro ⟨h1, h2, h3⟩
    unfold splitP
    by_cases hn : xs = []
    · subst hn
      rw [if_pos (by rw [h3]; rfl)]
    · have hg := glue_ne hn h2
      have hc : cutL (glue (xs.map (·.data.toList))) = xs.map (·.data.toList) := cut_glue (by simpa using hn) (fun z hz => by
        obtain ⟨x, hx, rfl⟩ := List.mem_map.1 hz
        exact (name_parts (List.all_eq_true.1 h2 x hx)).2.2)
      have ht : s.data.toList.tail = glue (xs.map (·.data.toList)) := by rw [h3]; rfl
      rw [if_neg (by rw [h3, pathL]; simpa using hg), ht, hc, names_map, if_pos ⟨by rw [h3]; rfl, by simpa using h1, h2⟩]
theorem split_code (s : ByteArray) : (splitP s).2 = 0 ∨ splitP s = ([], 14) := by
  unfold splitP
  split
  · exact .inl rfl
  · split
    · exact .inl rfl
    · exact .inr rfl
theorem split_zero {s : ByteArray} (h : (splitP s).2 = 0) : splitP s = ((splitP s).1, 0) := by rw [← h]
def joinP (xs : List ByteArray) : ByteArray × Int := if xs.length ≤ 8 ∧ xs.all nameB = true then (ba (pathL xs), 0) else (⟨#[]⟩, 14)
/-- The program's way to it. -/
theorem join_prog (xs : List ByteArray) : joinP xs = if (splitP (ba (pathL xs))).2 = 0 ∧ (splitP (ba (pathL xs))).1 = xs then (ba (pathL xs), 0) else (⟨#[]⟩, 14) := by
  unfold joinP
  have h := split_ok (ba (pathL xs)) xs
  by_cases hc : xs.length ≤ 8 ∧ xs.all nameB = true
  · rw [if_pos hc]
    have := h.2 ⟨hc.1, hc.2, rfl⟩
    rw [if_pos (by rw [this]; exact ⟨rfl, rfl⟩)]
  · rw [if_neg hc, if_neg]
    rintro ⟨h1, h2⟩
    have := h.1 (by rw [← h1]; exact Prod.ext h2 rfl)
    exact hc ⟨this.1, this.2.1⟩
def parentP (s : ByteArray) : ByteArray × ByteArray × Int :=
  if (splitP s).2 ≠ 0 then (⟨#[]⟩, ⟨#[]⟩, (splitP s).2)
  else if (splitP s).1 = [] then (⟨#[]⟩, ⟨#[]⟩, 17)
  else ((joinP (splitP s).1.dropLast).1, (splitP s).1.getLastD ByteArray.empty, (joinP (splitP s).1.dropLast).2)
def withinB (a b : ByteArray) : Bool := decide ((splitP a).2 = 0) && decide ((splitP b).2 = 0) && decide ((splitP a).1 <+: (splitP b).1)
theorem within_iff (a b : ByteArray) : withinB a b = true ↔ (splitP a).2 = 0 ∧ (splitP b).2 = 0 ∧ (splitP a).1 <+: (splitP b).1 := by
  simp [withinB, and_assoc]
theorem path_inj {a b : ByteArray} (ha : (splitP a).2 = 0) (hb : (splitP b).2 = 0) (h : (splitP a).1 = (splitP b).1) : a = b := by
  have h1 := ((split_ok a _).1 (split_zero ha)).2.2
  have h2 := ((split_ok b _).1 (split_zero hb)).2.2
  rw [h, ← h2] at h1
  rw [← ba_data a, ← ba_data b, h1]
theorem within_anti {a b : ByteArray} (h : withinB a b = true) (k : withinB b a = true) : a = b := by
  obtain ⟨h1, h2, h3⟩ := (within_iff a b).1 h
  obtain ⟨k1, k2, k3⟩ := (within_iff b a).1 k
  exact path_inj h1 h2 (h3.eq_of_length_le k3.length_le)
theorem within_trans {a b c : ByteArray} (h : withinB a b = true) (k : withinB b c = true) : withinB a c = true := by
  obtain ⟨h1, h2, h3⟩ := (within_iff a b).1 h
  obtain ⟨k1, k2, k3⟩ := (within_iff b c).1 k
  exact (within_iff a c).2 ⟨h1, k2, h3.trans k3⟩
theorem within_self (a : ByteArray) : withinB a a = decide ((splitP a).2 = 0) := by
  simp [withinB]
/-- What being within says of the bytes. -/
theorem within_bytes {a b : ByteArray} (h : withinB a b = true) : a.data.toList = [47] ∨ b = a ∨ ∃ r, b.data.toList = a.data.toList ++ 47 :: r := by
  obtain ⟨h1, h2, r, h3⟩ := (within_iff a b).1 h
  have ha := ((split_ok a _).1 (split_zero h1)).2.2
  have hb := ((split_ok b _).1 (split_zero h2)).2.2
  by_cases hn : (splitP a).1 = []
  · left; rw [ha, hn]; rfl
  · by_cases hr : r = []
    · right; left
      exact (path_inj h1 h2 (by rw [← h3, hr]; simp)).symm
    · right; right
      refine ⟨glue (r.map (·.data.toList)), ?_⟩
      rw [hb, ha, ← h3, pathL, pathL, List.map_append, glue_append (by simpa using hn) (by simpa using hr)]
      rfl
end Go.Proofs.YtenlokbfjajbbaaDoor.Pa
