/- Nodes' plain laws: printed and parsed. Plain theorems, no program. -/
import Derived.Test.YtenlokbfjajbbaaNodeForm
import Derived.Test.YtenlokbfjajbbaaNodePlain
set_option linter.unusedSimpArgs false
set_option linter.unusedVariables false
namespace Go.Proofs.Ytenlokbfjajbbaa.Nd
open Go Go.RowKit Go.Proofs.Ytenlokbfjajbbaa.Ev Go.Proofs.Ytenlokbfjajbbaa.Sb

theorem b1_of (c : UInt8) (z : Int) (h : z % 256 = c.toNat) : b1 z = c := by
  have h1 := b1_nat z
  rw [h] at h1
  exact UInt8.toNat_inj.1 (by omega)
theorem bs_data (d : ByteArray) : bs d.data.toList = d := rfl
theorem bs_list' (l : List UInt8) : (bs l).data.toList = l := rfl

theorem unb4_b4 (z : Int) (h0 : 0 ≤ z) (h1 : z < 4294967296) (l : List UInt8) : unb4 (b4 z ++ l) = z := by
  simp only [unb4, b4, List.cons_append, List.nil_append, List.getD_cons_zero, List.getD_cons_succ, b1_nat]
  omega

theorem parse_printE : ∀ (es : List Ent) (n : Nat), es.length < n → (∀ e ∈ es, e.1.size < 256 ∧ 0 ≤ e.2 ∧ e.2 < 4294967296) → parseE n (es.flatMap printE) = some es
  | [], n + 1, _, _ => rfl
  | _, 0, h, _ => absurd h (Nat.not_lt_zero _)
  | e :: es, n + 1, h, hs => by
    obtain ⟨nm, ino⟩ := e
    have he := hs (nm, ino) (by simp)
    simp only at he
    have ih := parse_printE es n (by simpa using h) (fun x hx => hs x (List.mem_cons_of_mem _ hx))
    have hb : (b1 (nm.size : Int)).toNat = nm.size := by
      have := b1_nat (nm.size : Int)
      omega
    have hl : nm.data.toList.length = nm.size := by rw [Array.length_toList]; rfl
    have hf : (((nm, ino) :: es : List Ent)).flatMap printE = b1 (nm.size : Int) :: (nm.data.toList ++ (b4 ino ++ es.flatMap printE)) := by
      simp [List.flatMap_cons, printE]
    have h4 : (b4 ino).length = 4 := rfl
    rw [hf]
    simp only [parseE, hb]
    have hlt : ¬ (nm.data.toList ++ (b4 ino ++ es.flatMap printE)).length < nm.size + 4 := by
      simp only [List.length_append, hl, h4]; omega
    rw [if_neg hlt]
    have hd : (nm.data.toList ++ (b4 ino ++ es.flatMap printE)).drop (nm.size + 4) = es.flatMap printE := by
      rw [← List.drop_drop, ← hl, List.drop_left, ← h4, List.drop_left]
    have hd2 : (nm.data.toList ++ (b4 ino ++ es.flatMap printE)).drop nm.size = b4 ino ++ es.flatMap printE := by rw [← hl, List.drop_left]
    have ht : (nm.data.toList ++ (b4 ino ++ es.flatMap printE)).take nm.size = nm.data.toList := by rw [← hl, List.take_left]
    rw [hd, hd2, ht, ih, unb4_b4 _ he.2.1 he.2.2]
    rfl

theorem print_parseE : ∀ (n : Nat) (l : List UInt8) (es : List Ent), parseE n l = some es → es.flatMap printE = l
  | 0, l, es, h => by simp [parseE] at h
  | n + 1, [], es, h => by
    simp only [parseE, Option.some.injEq] at h
    subst h
    rfl
  | n + 1, c :: l, es, h => by
    simp only [parseE] at h
    split at h
    · cases h
    · rename_i hlt
      obtain ⟨es', he, rfl⟩ := Option.map_eq_some_iff.1 h
      have ih := print_parseE n _ _ he
      have hcn := c.toNat_lt
      have hl4 : 4 ≤ (l.drop c.toNat).length := by rw [List.length_drop]; omega
      have hsz : ((bs (l.take c.toNat)).size : Int) = c.toNat := by
        rw [bs_size, List.length_take]; omega
      rw [List.flatMap_cons, ih]
      simp only [printE, hsz]
      have hb1 : b1 (c.toNat : Int) = c := b1_of c _ (by omega)
      rw [hb1]
      have hdd : l.drop (c.toNat + 4) = (l.drop c.toNat).drop 4 := by rw [List.drop_drop]
      have hsplit : l = l.take c.toNat ++ l.drop c.toNat := (List.take_append_drop _ _).symm
      generalize hq : l.drop c.toNat = D at hl4 hdd hsplit
      rw [hdd]
      match D, hl4 with
      | p :: q :: r :: s :: D, _ =>
        have hp := p.toNat_lt
        have hqq := q.toNat_lt
        have hr := r.toNat_lt
        have hs := s.toNat_lt
        have hb : b4 (unb4 (p :: q :: r :: s :: D)) = [p, q, r, s] := by
          simp only [unb4, b4, List.getD_cons_zero, List.getD_cons_succ]
          rw [b1_of p _ (by omega), b1_of q _ (by omega), b1_of r _ (by omega), b1_of s _ (by omega)]
        rw [hb]
        conv => rhs; rw [hsplit]
        simp
      | [], h' => simp at h'
      | [_], h' => simp at h'
      | [_, _], h' => simp at h'
      | [_, _, _], h' => simp at h'
theorem rising_ents {es : List Ent} (h : risingB es = true) : ∀ e ∈ es, e.1.size < 256 ∧ 0 ≤ e.2 ∧ e.2 < 4294967296 := by
  intro e he
  obtain ⟨j, hj, rfl⟩ := List.getElem_of_mem he
  simp only [risingB, Bool.and_eq_true, List.all_eq_true, List.mem_range, okAt, nameB, decide_eq_true_eq] at h
  have h1 := h.1 j hj
  have hg : es.getD j default = es[j] := by rw [List.getD_eq_getElem?_getD, List.getElem?_eq_getElem hj]; rfl
  rw [hg] at h1
  obtain ⟨⟨⟨⟨⟨⟨⟨_, h2⟩, _⟩, _⟩, _⟩, h3⟩, h4⟩, _⟩ := h1
  exact ⟨by omega, by omega, by omega⟩
theorem right_cases {N : Nd} (h : rightB N = true) : 0 ≤ N.mode ∧ N.mode ≤ 511 ∧
    ((N.kind = 1 ∧ N.target = ⟨#[]⟩ ∧ N.ents = []) ∨ (N.kind = 2 ∧ N.data = ⟨#[]⟩ ∧ N.target = ⟨#[]⟩ ∧ risingB N.ents = true) ∨ (N.kind = 3 ∧ N.data = ⟨#[]⟩ ∧ N.ents = [])) := by
  have hz : ∀ d : ByteArray, d.size = 0 → d = ⟨#[]⟩ := fun d hd => ByteArray.ext (Array.eq_empty_of_size_eq_zero hd)
  unfold rightB at h
  split at h
  · cases h
  · rename_i hm
    refine ⟨by omega, by omega, ?_⟩
    split at h
    · rename_i hk
      simp only [Bool.and_eq_true, decide_eq_true_eq] at h
      exact .inl ⟨hk, hz _ h.1.1, List.eq_nil_of_length_eq_zero h.1.2⟩
    · split at h
      · rename_i hk
        simp only [Bool.and_eq_true, decide_eq_true_eq] at h
        exact .inr (.inl ⟨hk, hz _ h.1.1, hz _ h.1.2, h.2⟩)
      · split at h
        · rename_i hk
          simp only [Bool.and_eq_true, decide_eq_true_eq] at h
          exact .inr (.inr ⟨hk, hz _ h.1.1.1, List.eq_nil_of_length_eq_zero h.1.1.2⟩)
        · cases h

theorem b1_toNat {z : Int} (h0 : 0 ≤ z) (h1 : z < 256) : (b1 z).toNat = z.toNat := by
  have := b1_nat z
  omega
theorem mode_back {m : Int} (h0 : 0 ≤ m) (h1 : m ≤ 511) : ((b1 (m / 256)).toNat : Int) * 256 + (b1 m).toNat = m := by
  rw [b1_nat, b1_nat]
  omega

/-- What is printed is parsed. -/
theorem parse_print {N : Nd} (h : rightB N = true) : parseN (printL N) = (N, 0) := by
  obtain ⟨h0, h1, hc⟩ := right_cases h
  have hm := mode_back h0 h1
  have hd : ∀ M : Nd, M = N → doneN M = (N, 0) := fun M e => by rw [e, doneN, if_pos h]
  obtain ⟨k, m, d, t, es⟩ := N
  simp only at h0 h1 hc hm
  rcases hc with ⟨rfl, rfl, rfl⟩ | ⟨rfl, rfl, rfl, hr⟩ | ⟨rfl, rfl, rfl⟩
  · have hk : (b1 1).toNat = 1 := rfl
    simp only [printL, List.flatMap_nil, List.append_nil, List.cons_append, List.nil_append, parseN, hk, if_pos]
    refine hd _ ?_
    rw [hm]
  · have hk : (b1 2).toNat = 2 := rfl
    have hp := parse_printE es ((es.flatMap printE).length + 1) (by
      have : ∀ l : List Ent, l.length ≤ (l.flatMap printE).length := fun l => by
        induction l with
        | nil => simp
        | cons e l ih => rw [List.flatMap_cons, List.length_append, List.length_cons]; have : 1 ≤ (printE e).length := by simp [printE]
                         omega
      have := this es
      omega) (rising_ents hr)
    simp only [printL, List.cons_append, List.nil_append, parseN, hk, if_neg (by decide : ¬ (2 : Nat) = 1), if_neg (by decide : ¬ (2 : Nat) = 3), hp]
    refine hd _ ?_
    rw [hm]
    rfl
  · have hk : (b1 3).toNat = 3 := rfl
    simp only [printL, List.flatMap_nil, List.append_nil, List.cons_append, List.nil_append, parseN, hk, if_neg (by decide : ¬ (3 : Nat) = 1), if_pos]
    refine hd _ ?_
    rw [hm]

theorem done_zero {M N : Nd} (h : doneN M = (N, 0)) : M = N ∧ rightB N = true := by
  unfold doneN at h
  split at h
  · rename_i hr
    simp only [Prod.mk.injEq, and_true] at h
    exact ⟨h, h ▸ hr⟩
  · simp at h
theorem mode_print {a b : UInt8} : b1 ((((a.toNat : Int) * 256 + b.toNat)) / 256) = a ∧ b1 ((a.toNat : Int) * 256 + b.toNat) = b := by
  have ha := a.toNat_lt
  have hb := b.toNat_lt
  exact ⟨b1_of a _ (by omega), b1_of b _ (by omega)⟩

/-- What is parsed is right, and printed again. -/
theorem print_parse {s : List UInt8} {N : Nd} (h : parseN s = (N, 0)) : rightB N = true ∧ printL N = s := by
  match s with
  | [] => simp [parseN] at h
  | [_] => simp [parseN] at h
  | [_, _] => simp [parseN] at h
  | k :: a :: b :: r =>
    have hm := @mode_print a b
    have hk := k.toNat_lt
    have hkb : b1 (k.toNat : Int) = k := b1_of k _ (by omega)
    simp only [parseN] at h
    split at h
    · rename_i h1
      obtain ⟨rfl, hr⟩ := done_zero h
      refine ⟨hr, ?_⟩
      have : b1 1 = k := by rw [← hkb, h1]; rfl
      simp only [printL, hm.1, hm.2, this, List.flatMap_nil, List.append_nil]
      simp [bs_list']
    · split at h
      · rename_i h3
        obtain ⟨rfl, hr⟩ := done_zero h
        refine ⟨hr, ?_⟩
        have : b1 3 = k := by rw [← hkb, h3]; rfl
        simp only [printL, hm.1, hm.2, this, List.flatMap_nil, List.append_nil]
        simp [bs_list']
      · split at h
        · rename_i es he
          obtain ⟨rfl, hr⟩ := done_zero h
          refine ⟨hr, ?_⟩
          have := print_parseE _ _ _ he
          simp only [printL, hm.1, hm.2, hkb, this]
          simp
        · simp at h
theorem parse_code (s : List UInt8) : (parseN s).2 = 0 ∨ parseN s = (zeroN, 2) := by
  have hd : ∀ M, (doneN M).2 = 0 ∨ doneN M = (zeroN, 2) := fun M => by
    unfold doneN
    split
    · exact .inl rfl
    · exact .inr rfl
  match s with
  | [] => exact .inr rfl
  | [_] => exact .inr rfl
  | [_, _] => exact .inr rfl
  | k :: a :: b :: r =>
    simp only [parseN]
    split
    · exact hd _
    · split
      · exact hd _
      · split
        · exact hd _
        · exact .inr rfl

theorem sameE_iff : ∀ a b : List Ent, sameE a b = true ↔ a = b
  | [], [] => by simp [sameE]
  | [], _ :: _ => by simp [sameE]
  | _ :: _, [] => by simp [sameE]
  | x :: a, y :: b => by
    have ih := sameE_iff a b
    have hxy : (x.1.toList == y.1.toList && decide (x.2 = y.2)) = true ↔ x = y := by
      obtain ⟨x1, x2⟩ := x
      obtain ⟨y1, y2⟩ := y
      simp only [Bool.and_eq_true, beq_iff_eq, decide_eq_true_eq, Prod.mk.injEq]
      exact ⟨fun ⟨h1, h2⟩ => ⟨toList_inj h1, h2⟩, fun ⟨h1, h2⟩ => ⟨by rw [h1], h2⟩⟩
    simp only [sameE, List.zip_cons_cons, List.all_cons, List.length_cons, Bool.and_eq_true, decide_eq_true_eq] at ih hxy ⊢
    constructor
    · rintro ⟨h1, h2, h3⟩
      rw [hxy.1 h2, ih.1 ⟨by omega, h3⟩]
    · intro h
      injection h with h1 h2
      have := ih.2 h2
      exact ⟨by omega, hxy.2 h1, this.2⟩
theorem same_iff (M N : Nd) : sameB M N = true ↔ M = N := by
  obtain ⟨k, m, d, t, es⟩ := M
  obtain ⟨k', m', d', t', es'⟩ := N
  simp only [sameB, Bool.and_eq_true, decide_eq_true_eq, beq_iff_eq, sameE_iff, Nd.mk.injEq]
  exact ⟨fun ⟨⟨⟨⟨h1, h2⟩, h3⟩, h4⟩, h5⟩ => ⟨h1, h2, toList_inj h3, toList_inj h4, h5⟩, fun ⟨h1, h2, h3, h4, h5⟩ => ⟨⟨⟨⟨h1, h2⟩, by rw [h3]⟩, by rw [h4]⟩, h5⟩⟩
theorem same_refl (N : Nd) : sameB N N = true := (same_iff N N).2 rfl
/-- Unlike nodes have unlike texts. -/
theorem print_same {M N : Nd} (hM : rightB M = true) (hN : rightB N = true) : (printL M = printL N) ↔ sameB M N = true := by
  rw [same_iff]
  constructor
  · intro h
    have h1 := parse_print hM
    rw [h, parse_print hN] at h1
    exact (Prod.mk.inj h1).1.symm
  · intro h; rw [h]
end Go.Proofs.Ytenlokbfjajbbaa.Nd
