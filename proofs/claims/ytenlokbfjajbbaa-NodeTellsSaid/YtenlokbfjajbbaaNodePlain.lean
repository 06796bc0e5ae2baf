/- Nodes as plain data: what is printed is parsed, what is put is found, in whatever order. No program, no conditions beside those written out. -/
import Derived.Test.YtenlokbfjajbbaaNodeDefs
import Derived.Lib.Strings
set_option linter.unusedSimpArgs false
set_option linter.unusedVariables false
namespace Go.Proofs.Ytenlokbfjajbbaa.Nd
open Go Go.RowKit Go.Proofs.Ytenlokbfjajbbaa.Ev

theorem less_irrefl : ∀ a : List UInt8, Op.bytesLess a a = false
  | [] => rfl
  | a :: x => by simp [Op.bytesLess, less_irrefl x]
theorem less_trans : ∀ a b c : List UInt8, Op.bytesLess a b = true → Op.bytesLess b c = true → Op.bytesLess a c = true
  | a, [], _, h, _ => by cases a <;> simp [Op.bytesLess] at h
  | _, _ :: _, [], _, h => by simp [Op.bytesLess] at h
  | [], _ :: _, _ :: _, _, _ => by simp [Op.bytesLess]
  | a :: x, b :: y, c :: z, h, k => by
    simp only [Op.bytesLess, Bool.or_eq_true, Bool.and_eq_true, decide_eq_true_eq, beq_iff_eq] at h k ⊢
    rcases h with h | ⟨rfl, h⟩
    · rcases k with k | ⟨rfl, k⟩
      · exact .inl (UInt8.lt_trans h k)
      · exact .inl h
    · rcases k with k | ⟨rfl, k⟩
      · exact .inl k
      · exact .inr ⟨rfl, less_trans x y z h k⟩
theorem less_total : ∀ a b : List UInt8, Op.bytesLess a b = true ∨ a = b ∨ Op.bytesLess b a = true
  | [], [] => .inr (.inl rfl)
  | [], _ :: _ => .inl rfl
  | _ :: _, [] => .inr (.inr rfl)
  | a :: x, b :: y => by
    simp only [Op.bytesLess, Bool.or_eq_true, Bool.and_eq_true, decide_eq_true_eq, beq_iff_eq]
    by_cases hne : a = b
    · subst hne
      rcases less_total x y with h | h | h
      · exact .inl (.inr ⟨rfl, h⟩)
      · exact .inr (.inl (by rw [h]))
      · exact .inr (.inr (.inr ⟨rfl, h⟩))
    · have : a.toNat ≠ b.toNat := fun h => hne (UInt8.toNat_inj.1 h)
      rcases Nat.lt_or_gt_of_ne this with h | h
      · exact .inl (.inl (UInt8.lt_iff_toNat_lt.2 h))
      · exact .inr (.inr (.inl (UInt8.lt_iff_toNat_lt.2 h)))
theorem less_asymm {a b : List UInt8} (h : Op.bytesLess a b = true) : Op.bytesLess b a = false := by
  cases hb : Op.bytesLess b a with
  | false => rfl
  | true => have := less_trans a b a h hb; rw [less_irrefl] at this; cases this
theorem less_ne {a b : List UInt8} (h : Op.bytesLess a b = true) : a ≠ b := by
  rintro rfl
  rw [less_irrefl] at h; cases h
theorem toList_inj {a b : ByteArray} (h : a.toList = b.toList) : a = b := by
  rw [Lib.toList_data, Lib.toList_data] at h
  exact ByteArray.ext (Array.toList_inj.1 h)

/-- Entries that rise. -/
def Up (es : List Ent) : Prop := es.Pairwise fun a b => Op.bytesLess a.1.toList b.1.toList = true
def okE (e : Ent) : Bool := nameB e.1 && decide (1 ≤ e.2) && decide (e.2 ≤ 2147483647)

/-- What rises and has the same members is the same. -/
theorem Up.ext : ∀ {a b : List Ent}, Up a → Up b → (∀ e, e ∈ a ↔ e ∈ b) → a = b
  | [], [], _, _, _ => rfl
  | [], y :: b, _, _, h => by have := (h y).2 (by simp); cases this
  | x :: a, [], _, _, h => by have := (h x).1 (by simp); cases this
  | x :: a, y :: b, ha, hb, h => by
    have ha1 := List.pairwise_cons.1 ha
    have hb1 := List.pairwise_cons.1 hb
    have hxy : x = y := by
      rcases List.mem_cons.1 ((h x).1 (by simp)) with e | hx
      · exact e
      · rcases List.mem_cons.1 ((h y).2 (by simp)) with e | hy
        · exact e.symm
        · have h1 := hb1.1 x hx
          have h2 := ha1.1 y hy
          rw [less_asymm h1] at h2; cases h2
    subst hxy
    rw [Up.ext ha1.2 hb1.2 (fun e => ⟨fun he => ?_, fun he => ?_⟩)]
    · rcases List.mem_cons.1 ((h e).1 (List.mem_cons_of_mem _ he)) with rfl | hh
      · have := ha1.1 e he; rw [less_irrefl] at this; cases this
      · exact hh
    · rcases List.mem_cons.1 ((h e).2 (List.mem_cons_of_mem _ he)) with rfl | hh
      · have := hb1.1 e he; rw [less_irrefl] at this; cases this
      · exact hh

theorem okAt_zero (e : Ent) (es : List Ent) : okAt (e :: es) 0 = okE e := by simp [okAt, okE]
theorem okAt_succ (e e' : Ent) (es : List Ent) : okAt (e :: e' :: es) 1 = (okE e' && Op.bytesLess e.1.toList e'.1.toList) := by simp [okAt, okE]
theorem okAt_shift (e : Ent) (es : List Ent) (j : Nat) : okAt (e :: es) (j + 2) = okAt es (j + 1) := by simp [okAt]

theorem risingFrom : ∀ es : List Ent, (List.range es.length).all (okAt es) = true ↔ (∀ e ∈ es, okE e = true) ∧ Up es
  | [] => by simp [Up]
  | [e] => by simp [Up, okAt_zero, List.range_succ]
  | e :: e' :: es => by
    have ih := risingFrom (e' :: es)
    rw [List.all_eq_true] at ih ⊢
    constructor
    · intro h
      have h0 := h 0 (by simp)
      have h1 := h 1 (by simp)
      rw [okAt_zero] at h0
      rw [okAt_succ, Bool.and_eq_true] at h1
      obtain ⟨g1, g2⟩ := ih.1 (fun j hj => by
        cases j with
        | zero => rw [okAt_zero]; exact h1.1
        | succ j =>
          have := h (j + 2) (by simp at hj ⊢; omega)
          rwa [okAt_shift] at this)
      refine ⟨fun x hx => ?_, ?_⟩
      · rcases List.mem_cons.1 hx with rfl | hx
        · exact h0
        · exact g1 x hx
      · refine List.pairwise_cons.2 ⟨fun x hx => ?_, g2⟩
        rcases List.mem_cons.1 hx with rfl | hx
        · exact h1.2
        · exact less_trans _ _ _ h1.2 ((List.pairwise_cons.1 g2).1 x hx)
    · rintro ⟨h1, h2⟩ j hj
      have h2' := List.pairwise_cons.1 h2
      match j with
      | 0 => rw [okAt_zero]; exact h1 e (by simp)
      | 1 => rw [okAt_succ, h1 e' (by simp), h2'.1 e' (by simp)]; rfl
      | j + 2 =>
        rw [okAt_shift]
        exact ih.2 ⟨fun x hx => h1 x (List.mem_cons_of_mem _ hx), h2'.2⟩ (j + 1) (by simp at hj ⊢; omega)
theorem rising_iff (es : List Ent) : risingB es = true ↔ (∀ e ∈ es, okE e = true) ∧ Up es ∧ es.length ≤ 64 := by
  rw [risingB, Bool.and_eq_true, risingFrom, decide_eq_true_eq, and_assoc]

/-- Of entries that rise those ahead of a name, and those behind it. -/
theorem up_split {es : List Ent} (h : Up es) (n : ByteArray) : (∀ x ∈ es.takeWhile (fun x => !(geNm n x)), Op.bytesLess x.1.toList n.toList = true) ∧ (∀ x ∈ es.dropWhile (fun x => !(geNm n x)), Op.bytesLess x.1.toList n.toList = false) := by
  constructor
  · intro x hx
    have := List.all_eq_true.1 List.all_takeWhile x hx
    simpa [geNm] using this
  · induction es with
    | nil => simp
    | cons e es ih =>
      have h' := List.pairwise_cons.1 h
      intro x hx
      rw [List.dropWhile_cons] at hx
      split at hx
      · exact ih h'.2 x hx
      · rename_i hn
        have he : Op.bytesLess e.1.toList n.toList = false := by simpa [geNm] using hn
        rcases List.mem_cons.1 hx with rfl | hx
        · exact he
        · cases hb : Op.bytesLess x.1.toList n.toList with
          | false => rfl
          | true => have := less_trans _ _ _ (h'.1 x hx) hb; rw [he] at this; cases this
theorem mem_put (es : List Ent) (e x : Ent) : x ∈ putE es e ↔ x = e ∨ x ∈ es := by
  conv => rhs; rw [← List.takeWhile_append_dropWhile (p := fun x => !(geNm e.1 x)) (l := es)]
  simp only [putE, List.mem_append, List.mem_cons]
  constructor
  · rintro (h | h | h)
    · exact .inr (.inl h)
    · exact .inl h
    · exact .inr (.inr h)
  · rintro (h | h | h)
    · exact .inr (.inl h)
    · exact .inl h
    · exact .inr (.inr h)
theorem put_len (es : List Ent) (e : Ent) : (putE es e).length = es.length + 1 := by
  conv => rhs; rw [← List.takeWhile_append_dropWhile (p := fun x => !(geNm e.1 x)) (l := es)]
  simp only [putE, List.length_append, List.length_cons]
  omega
/-- Is the name among them? -/
def Has (es : List Ent) (n : ByteArray) : Prop := ∃ x ∈ es, x.1 = n
theorem up_put {es : List Ent} {e : Ent} (h : Up es) (hn : ¬ Has es e.1) : Up (putE es e) := by
  obtain ⟨h1, h2⟩ := up_split h e.1
  have hs : Up (es.takeWhile (fun x => !(geNm e.1 x)) ++ es.dropWhile (fun x => !(geNm e.1 x))) := by rw [List.takeWhile_append_dropWhile]; exact h
  obtain ⟨k1, k2, k3⟩ := List.pairwise_append.1 hs
  have h3 : ∀ x ∈ es.dropWhile (fun x => !(geNm e.1 x)), Op.bytesLess e.1.toList x.1.toList = true := fun x hx => by
    rcases less_total x.1.toList e.1.toList with h | h | h
    · rw [h2 x hx] at h; cases h
    · exact absurd ⟨x, (List.dropWhile_sublist _).mem hx, toList_inj h⟩ hn
    · exact h
  refine List.pairwise_append.2 ⟨k1, List.pairwise_cons.2 ⟨h3, k2⟩, fun x hx y hy => ?_⟩
  rcases List.mem_cons.1 hy with rfl | hy
  · exact h1 x hx
  · exact k3 x hx y hy

theorem isNm_iff (n : ByteArray) (e : Ent) : isNm n e = true ↔ e.1 = n := by
  simp only [isNm, beq_iff_eq]
  exact ⟨toList_inj, fun h => by rw [h]⟩
theorem find_has (N : Nd) (n : ByteArray) : (findN N n).2 = true ↔ Has N.ents n := by
  unfold findN
  split
  · rename_i e he
    have h1 := List.find?_some he
    have h2 := List.mem_of_find?_eq_some he
    exact ⟨fun _ => ⟨e, h2, (isNm_iff n e).1 h1⟩, fun _ => rfl⟩
  · rename_i he
    rw [List.find?_eq_none] at he
    exact ⟨(fun h => by cases h), fun ⟨x, hx, hn⟩ => absurd ((isNm_iff n x).2 hn) (he x hx)⟩
/-- Names of entries that rise meet once. -/
theorem up_once {es : List Ent} (h : Up es) {x y : Ent} (hx : x ∈ es) (hy : y ∈ es) (he : x.1 = y.1) : x = y := by
  induction es with
  | nil => cases hx
  | cons e es ih =>
    have h' := List.pairwise_cons.1 h
    rcases List.mem_cons.1 hx with hx1 | hx1
    · rcases List.mem_cons.1 hy with hy1 | hy1
      · rw [hx1, hy1]
      · have := h'.1 y hy1; rw [← hx1, he, less_irrefl] at this; cases this
    · rcases List.mem_cons.1 hy with hy1 | hy1
      · have := h'.1 x hx1; rw [← hy1, he, less_irrefl] at this; cases this
      · exact ih h'.2 hx1 hy1
theorem find_up {N : Nd} (h : Up N.ents) {e : Ent} (he : e ∈ N.ents) : findN N e.1 = (e.2, true) := by
  have h2 := (find_has N e.1).2 ⟨e, he, rfl⟩
  unfold findN at h2 ⊢
  split
  · rename_i x hx
    have h3 := (isNm_iff e.1 x).1 (List.find?_some hx)
    rw [up_once h (List.mem_of_find?_eq_some hx) he h3]
  · rename_i hx
    rw [hx] at h2; cases h2
/-- Without the first one of a name. -/
theorem mem_erase {es : List Ent} (h : Up es) {e : Ent} (he : e ∈ es) (x : Ent) : x ∈ es.eraseP (isNm e.1) ↔ x ∈ es ∧ x ≠ e := by
  induction es with
  | nil => cases he
  | cons y es ih =>
    have h' := List.pairwise_cons.1 h
    by_cases hy : isNm e.1 y = true
    · rw [List.eraseP_cons_of_pos hy]
      have hye : y = e := up_once h (by simp) he ((isNm_iff _ _).1 hy)
      subst hye
      constructor
      · intro hx
        refine ⟨List.mem_cons_of_mem _ hx, fun hh => ?_⟩
        subst hh
        have := h'.1 x hx; rw [less_irrefl] at this; cases this
      · rintro ⟨hx, hn⟩
        rcases List.mem_cons.1 hx with rfl | hx
        · exact absurd rfl hn
        · exact hx
    · rw [List.eraseP_cons_of_neg hy]
      have he' : e ∈ es := by
        rcases List.mem_cons.1 he with rfl | he
        · exact absurd ((isNm_iff _ _).2 rfl) hy
        · exact he
      constructor
      · intro hx
        rcases List.mem_cons.1 hx with rfl | hx
        · exact ⟨by simp, fun hh => hy (by rw [hh]; exact (isNm_iff _ _).2 rfl)⟩
        · have := (ih h'.2 he').1 hx
          exact ⟨List.mem_cons_of_mem _ this.1, this.2⟩
      · rintro ⟨hx, hn⟩
        rcases List.mem_cons.1 hx with rfl | hx
        · exact List.mem_cons_self
        · exact List.mem_cons_of_mem _ ((ih h'.2 he').2 ⟨hx, hn⟩)
theorem up_erase {es : List Ent} (h : Up es) (p : Ent → Bool) : Up (es.eraseP p) := List.Pairwise.sublist (List.eraseP_sublist) h
theorem erase_len {es : List Ent} {e : Ent} (he : e ∈ es) : (es.eraseP (isNm e.1)).length + 1 = es.length := by
  have := List.length_eraseP_of_mem he ((isNm_iff e.1 e).2 rfl)
  have h0 : 0 < es.length := List.length_pos_of_mem he
  omega
/-- Put and taken again. -/
theorem erase_put {es : List Ent} {e : Ent} (h : Up es) (hn : ¬ Has es e.1) : (putE es e).eraseP (isNm e.1) = es := by
  refine Up.ext (up_erase (up_put h hn) _) h (fun x => ?_)
  rw [mem_erase (up_put h hn) ((mem_put es e e).2 (.inl rfl)), mem_put]
  constructor
  · rintro ⟨h1 | h1, h2⟩
    · exact absurd h1 h2
    · exact h1
  · intro hx
    exact ⟨.inr hx, fun hh => hn ⟨x, hx, by rw [hh]⟩⟩
/-- Taken and put again. -/
theorem put_erase {es : List Ent} {e : Ent} (h : Up es) (he : e ∈ es) : ¬ Has (es.eraseP (isNm e.1)) e.1 ∧ putE (es.eraseP (isNm e.1)) e = es := by
  have hn : ¬ Has (es.eraseP (isNm e.1)) e.1 := by
    rintro ⟨x, hx, hxe⟩
    have := (mem_erase h he x).1 hx
    exact this.2 (up_once h this.1 he hxe)
  refine ⟨hn, Up.ext (up_put (up_erase h _) hn) h (fun x => ?_)⟩
  rw [mem_put, mem_erase h he]
  constructor
  · rintro (rfl | ⟨h1, _⟩)
    · exact he
    · exact h1
  · intro hx
    by_cases hxe : x = e
    · exact .inl hxe
    · exact .inr ⟨hx, hxe⟩
end Go.Proofs.Ytenlokbfjajbbaa.Nd
