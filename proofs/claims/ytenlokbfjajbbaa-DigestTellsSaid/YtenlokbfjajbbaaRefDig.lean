/- The reference's Digits, and few. No conditions beside those written out. -/
import Derived.Test.YtenlokbfjajbbaaRefJoin
set_option linter.unusedSimpArgs false
set_option linter.unusedVariables false
namespace Go.Proofs.Ytenlokbfjajbbaa.RefSum
open Go Go.RowKit Go.Proofs.Ytenlokbfjajbbaa.Sha Go.Proofs.YtenlokbfjajbbaaW.PrintWords Go.Proofs.YtenlokbfjajbbaaW.PrintLast Go.Proofs.Ytenlokbfjajbbaa.PDigestTells Go.Proofs.Ytenlokbfjajbbaa.Reg Go.Proofs.Ytenlokbfjajbbaa.Ev Go.Proofs.Ytenlokbfjajbbaa.Press Go.Proofs.Ytenlokbfjajbbaa.Dig

theorem digit_lo : ∀ n : Nat, n < 10 → strOfNums [(48 + (n : Int)) % 256] = bs [digs.getD n 0] := by decide +kernel
theorem digit_hi : ∀ n : Nat, n < 16 → ¬ n < 10 → strOfNums [(87 + (n : Int)) % 256] = bs [digs.getD n 0] := by decide +kernel
theorem bt_bs (l : List UInt8) (i : Nat) (h : i < l.length) : bt (bs l) i = ((l.getD i 0).toNat : Int) := by
  have hs : i < (bs l).size := by rw [bs_size]; exact h
  have e : ((bs l)[i]'hs) = l[i] := by
    show (bs l).data[i] = l[i]
    simp
  simp [bt, List.getD_eq_getElem?_getD, h, hs, e]

theorem dig_loop (l : List UInt8) (hl : l.length ≤ 1099511627776) : ∀ (m i k : Nat), m + i = l.length → 4 * m < k → snapferryref01_Digits.l0 k (bs l) (bs (hexL (l.take i))) i = some (bs (hexL l)) := by
  intro m
  induction m with
  | zero =>
    intro i k hi hk
    obtain ⟨k, rfl⟩ : ∃ j, k = j + 1 := ⟨k - 1, by omega⟩
    obtain rfl : i = l.length := by omega
    simp only [snapferryref01_Digits.l0]
    rw [if_neg (by rw [bs_size]; omega), List.take_length]
  | succ m ih =>
    intro i k hi hk
    obtain ⟨k, rfl⟩ : ∃ j, k = j + 1 + 1 + 1 + 1 := ⟨k - 4, by omega⟩
    obtain ⟨k2, hk2⟩ : ∃ j, j = k + 1 := ⟨_, rfl⟩
    obtain ⟨k3, hk3⟩ : ∃ j, j = k2 + 1 := ⟨_, rfl⟩
    obtain ⟨k4, hk4⟩ : ∃ j, j = k3 + 1 := ⟨_, rfl⟩
    have hkk : 4 * m < k := by omega
    rw [← hk2, ← hk3, ← hk4]
    clear hk
    have hil : i < l.length := by omega
    have hz : ((bs l).size : Int) = (l.length : Int) := by rw [bs_size]
    have hb := (l.getD i 0).toNat_lt
    have hbt := bt_bs l i hil
    have hs := hexL_snoc l i hil
    have hh : (hexL (l.take i)).length ≤ 2 * l.length := by rw [hexL_len, List.length_take]; omega
    obtain ⟨H, hH⟩ : ∃ H, H = hexL (l.take i) := ⟨_, rfl⟩
    rw [← hH] at hs hh ⊢
    clear hH
    generalize hq : (l.getD i 0) = q at *
    obtain ⟨n1, hn1⟩ : ∃ n, n = q.toNat / 16 := ⟨_, rfl⟩
    obtain ⟨n2, hn2⟩ : ∃ n, n = q.toNat % 16 := ⟨_, rfl⟩
    have e1 : Int.tdiv (bt (bs l) i) 16 % 256 = (n1 : Int) := by rw [hbt, Int.tdiv_eq_ediv_of_nonneg (by omega)]; omega
    have e2 : Int.tmod (bt (bs l) i) 16 = (n2 : Int) := by rw [hbt, Int.tmod_eq_emod_of_nonneg (by omega)]; omega
    have hl1 : n1 < 16 := by omega
    have hl2 : n2 < 16 := by omega
    have hs' : hexL (l.take (i + 1)) = H ++ [digs.getD n1 0, digs.getD n2 0] := by rw [hs, hexB, ← hn1, ← hn2]
    have dl1 := digit_lo n1
    have dh1 := digit_hi n1 hl1
    have dl2 := digit_lo n2
    have dh2 := digit_hi n2 hl2
    generalize digs.getD n1 0 = d1 at *
    generalize digs.getD n2 0 = d2 at *
    have w0 : wrap64 ((0 : Int) + 1) = 1 := by unfold wrap64; omega
    have w1 : wrap64 ((1 : Int) + 1) = 2 := by unfold wrap64; omega
    have w2 : wrap64 ((i : Int) + 1) = ((i + 1 : Nat) : Int) := by unfold wrap64; omega
    have q0 : (0 : Int) ≤ (i : Int) := Int.natCast_nonneg i
    have q1 : (i : Int) < ((bs l).size : Int) := by rw [hz]; exact Int.ofNat_lt.2 hil
    have q2 : (bs H).size + (bs [d1]).size ≤ 9223372036854775807 := by rw [bs_size, bs_size]; simp only [List.length_cons, List.length_nil]; clear dl1 dl2 dh1 dh2 w0 w1 w2 q0 q1 ih e1 e2 hbt; omega
    have q3 : (bs (H ++ [d1])).size + (bs [d2]).size ≤ 9223372036854775807 := by rw [bs_size, bs_size, List.length_append]; simp only [List.length_cons, List.length_nil]; clear dl1 dl2 dh1 dh2 w0 w1 w2 q0 q1 q2 ih e1 e2 hbt; omega
    have e3 : bs (H ++ [d1]) ++ bs [d2] = bs (hexL (l.take (i + 1))) := by rw [bs_append, hs']; simp
    have e4 : bs H ++ bs [d1] = bs (H ++ [d1]) := bs_append _ _
    have last : snapferryref01_Digits.l1 k2 (bs l) (bs (hexL (l.take (i + 1)))) i 2 = some (bs (hexL l)) := by
      rw [hk2]
      simp only [snapferryref01_Digits.l1]
      rw [if_neg (by decide), w2]
      exact ih (i + 1) k (by clear ih dl1 dl2 dh1 dh2 w0 w1 w2 q0 q1 q2 q3 e1 e2 hbt hs hs' e3 e4; omega) hkk
    clear hs hs' hn1 hn2 hb hbt hq hz hh
    have second : snapferryref01_Digits.l1 k3 (bs l) (bs (H ++ [d1])) i 1 = some (bs (hexL l)) := by
      rw [hk3]
      simp only [snapferryref01_Digits.l1]
      rw [if_pos (by decide), if_pos q0, if_pos q1, if_pos trivial, e2]
      by_cases h10 : n2 < 10
      · have q4 : (n2 : Int) < 10 := Int.ofNat_lt.2 h10
        rw [if_pos q4, Option.bind_some, dl2 h10, if_pos q3, w1, e3]
        exact last
      · have q4 : ¬ (n2 : Int) < 10 := fun hh => h10 (Int.ofNat_lt.1 hh)
        rw [if_neg q4, Option.bind_some, dh2 h10, if_pos q3, w1, e3]
        exact last
    simp only [snapferryref01_Digits.l0]
    rw [if_pos q1, hk4]
    simp only [snapferryref01_Digits.l1]
    rw [if_pos (by decide), if_pos q0, if_pos q1, if_neg (by decide), e1]
    by_cases h10 : n1 < 10
    · have q4 : (n1 : Int) < 10 := Int.ofNat_lt.2 h10
      rw [if_pos q4, Option.bind_some, dl1 h10, if_pos q2, w0, e4]
      exact second
    · have q4 : ¬ (n1 : Int) < 10 := fun hh => h10 (Int.ofNat_lt.1 hh)
      rw [if_neg q4, Option.bind_some, dh1 h10, if_pos q2, w0, e4]
      exact second

theorem rdigits_any (l : List UInt8) (w : World) (hl : l.length ≤ 1099511627776) :
    Calls Try.prog 18 #[.string (bs l)] w fun e w' => e = .returned (.string (bs (hexL l))) ∧ Below w.heap.size w w' := by
  refine snapferryref01_Digits.calls (4 * l.length + 1) (bs l) (bs (hexL l)) w ?_
  unfold snapferryref01_Digits.f
  exact dig_loop l hl l.length 0 _ (by omega) (by omega)

/-- Few texts, and short ones. -/
def Few (xs : List ByteArray) : Prop := xs.length ≤ 100 ∧ (cat xs).length ≤ 4000
theorem cat_cons (x : ByteArray) (xs : List ByteArray) : (cat (x :: xs)).length = x.size + (cat xs).length := by simp [cat, data_size]
theorem few_loop (xs : List ByteArray) (hm : (xs.length : Int) ≤ 9223372036854775807) : ∀ (m i k : Nat) (t : Int), m + i = xs.length → m < k → 0 ≤ t → t ≤ 4000 → (∀ x ∈ xs, x.size ≤ 4611686018427387904) →
    ∃ b, snapferrylaw01_few.l0 k xs t i = some b ∧ (b = true → xs.length ≤ 100 ∨ m = 0) ∧ (b = true → t + (cat (xs.drop i)).length ≤ 4000) := by
  intro m
  induction m with
  | zero =>
    intro i k t hi hk h0 h1 hx
    obtain ⟨k, rfl⟩ : ∃ j, k = j + 1 := ⟨k - 1, by omega⟩
    refine ⟨true, ?_, fun _ => .inr rfl, fun _ => ?_⟩
    · simp only [snapferrylaw01_few.l0]
      rw [if_neg (by omega)]
    · rw [List.drop_of_length_le (by omega)]; simpa [cat] using h1
  | succ m ih =>
    intro i k t hi hk h0 h1 hx
    obtain ⟨k, rfl⟩ : ∃ j, k = j + 1 := ⟨k - 1, by omega⟩
    have hil : i < xs.length := by omega
    obtain ⟨x, hxe⟩ : ∃ x, xs[i]? = some x := ⟨_, List.getElem?_eq_getElem hil⟩
    have hrd : rdOf ByteArray.empty xs (i : Int) = x := by simp [rdOf, List.getD_eq_getElem?_getD, hxe]
    have hxs := hx x (List.mem_of_getElem? hxe)
    have hw : wrap64 (t + (x.size : Int)) = t + (x.size : Int) := by unfold wrap64; omega
    have hw1 : wrap64 ((i : Int) + 1) = ((i + 1 : Nat) : Int) := by unfold wrap64; omega
    have hd : xs.drop i = x :: xs.drop (i + 1) := by
      rw [List.drop_eq_getElem_cons hil]
      congr 1
      have := List.getElem?_eq_getElem hil
      rw [hxe] at this
      exact (Option.some.inj this).symm
    simp only [snapferrylaw01_few.l0]
    rw [if_pos (by omega), if_pos (by omega), hrd, hw, hw1]
    by_cases h100 : (i : Int) ≥ 100
    · rw [if_pos h100]
      exact ⟨false, rfl, by simp, by simp⟩
    · rw [if_neg h100]
      by_cases h4 : t + (x.size : Int) > 4000
      · rw [if_pos h4]
        exact ⟨false, rfl, by simp, by simp⟩
      · rw [if_neg h4]
        obtain ⟨b, hb, h2, h3⟩ := ih (i + 1) k (t + x.size) (by omega) (by omega) (by omega) (by omega) hx
        refine ⟨b, hb, fun h => ?_, fun h => ?_⟩
        · rcases h2 h with h5 | h5
          · exact .inl h5
          · exact .inl (by omega)
        · have := h3 h
          rw [hd, cat_cons]
          omega
theorem few_any (A : Option Addr) (c : Nat) (xs : List ByteArray) (w : World) (h : Strs w A xs) (hc : xs.length ≤ c) (hm : xs.length ≤ 4611686018427387904) (hx : ∀ x ∈ xs, x.size ≤ 4611686018427387904) :
    ∃ b : Bool, (b = true → Few xs) ∧ ∀ w, Strs w A xs → Calls Try.prog 12 #[.slice A xs.length c] w fun e w' => e = .returned (.bool b) ∧ ∃ n, w' = w.drewN n := by
  obtain ⟨b, hb, h2, h3⟩ := few_loop xs (by omega) xs.length 0 (xs.length + 1) 0 (by omega) (by omega) (by omega) (by omega) hx
  refine ⟨b, fun hbt => ⟨?_, ?_⟩, fun w hs => (snapferrylaw01_few.calls (xs.length + 1) A c xs b w hs hc hb).mono fun e w' ⟨h1, h2⟩ => ⟨h1, h2.out⟩⟩
  · rcases h2 hbt with h | h <;> omega
  · have := h3 hbt
    simp at this
    omega
end Go.Proofs.Ytenlokbfjajbbaa.RefSum
