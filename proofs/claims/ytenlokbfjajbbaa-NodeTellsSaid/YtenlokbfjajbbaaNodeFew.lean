/- The law's Few; With and Print joined. Conditions: sizes are bounded, as written out. -/
import Derived.Test.YtenlokbfjajbbaaNodeParse
set_option linter.unusedSimpArgs false
set_option linter.unusedVariables false
namespace Go.Proofs.Ytenlokbfjajbbaa.Nd
open Go Go.RowKit Go.Proofs.YtenlokbfjajbbaaW.PrintWords Go.Proofs.Ytenlokbfjajbbaa.Ev Go.Proofs.Ytenlokbfjajbbaa.Reg Go.Proofs.Ytenlokbfjajbbaa.Sb

def fewB (N : Nd) : Bool := decide (N.ents.length ≤ 80) && N.ents.all (fun e => decide (e.1.size ≤ 100)) && decide (N.data.size ≤ 5000) && decide (N.target.size ≤ 500)
theorem few_not {N : Nd} {k : Nat} (hk : k < N.ents.length) (h : 80 ≤ k ∨ 100 < (N.ents.getD k default).1.size) : fewB N = false := by
  rcases h with h | h
  · have : ¬ N.ents.length ≤ 80 := by omega
    simp [fewB, this]
  · have : N.ents.all (fun e => decide (e.1.size ≤ 100)) = false := by
      refine List.all_eq_false.2 ⟨N.ents.getD k default, ?_, ?_⟩
      · rw [List.getD_eq_getElem?_getD, List.getElem?_eq_getElem hk]; exact List.getElem_mem hk
      · simp only [decide_eq_true_eq]; omega
    rw [fewB, this]; simp
theorem few_of {N : Nd} (h : ∀ j, j < N.ents.length → j < 80 ∧ (N.ents.getD j default).1.size ≤ 100) : fewB N = (decide (N.data.size ≤ 5000) && decide (N.target.size ≤ 500)) := by
  have h1 : N.ents.length ≤ 80 := by
    by_cases h0 : N.ents.length = 0
    · omega
    · have := (h (N.ents.length - 1) (by omega)).1; omega
  have h2 : N.ents.all (fun e => decide (e.1.size ≤ 100)) = true := by
    refine List.all_eq_true.2 fun e he => ?_
    obtain ⟨j, hj, rfl⟩ := List.getElem_of_mem he
    have := (h j hj).2
    rw [List.getD_eq_getElem?_getD, List.getElem?_eq_getElem hj] at this
    simpa using this
  simp [fewB, h1, h2]
theorem few_small {N : Nd} (h : fewB N = true) : Small N.ents := by
  simp only [fewB, Bool.and_eq_true, List.all_eq_true, decide_eq_true_eq] at h
  intro e he
  have := h.1.1.2 e he
  omega

set_option maxHeartbeats 4000000 in
set_option maxRecDepth 100000 in
theorem few_any (N : Nd) (v : Value) (W : World) (hs : EntS W v N.ents) :
    Calls Try.prog 36 #[ndV N v] W fun e w' => e = .returned (.bool (fewB N)) ∧ Fr No W w' := by
  obtain ⟨x, hx⟩ : ∃ x, fewB N = x := ⟨_, rfl⟩
  rw [hx]
  have HX := Kp.mk hx
  clear hx
  obtain ⟨A, c, rfl, h1, h2, h3⟩ := hs.out
  obtain ⟨k, m, d, t, es⟩ := N
  have H3 := Kp.mk h3
  have hsz : es.length ≤ 9223372036854775807 := by have : es.length ≤ c := h1; omega
  clear h3 hs
  go_enter Try.func36, Try.ntmps36
  go_wp2_with ((with_reducible refine gate_dst (N := 1) rfl ?_); refine ev_box rfl 56 _ rfl _ rfl (ndL k m d t (.slice A es.length c)) rfl ?_; intro g1 w1 hg1 f1 b1; have c4 := b1.at_ 4 rfl; have c2 := b1.at_ 2 rfl; have c3 := b1.at_ 3 rfl)
  go_loopg [3] es.length (fun gg s wr => ∃ kk : Nat, kk ≤ es.length ∧ es.length - kk ≤ gg ∧ s = .int .i64 kk ∧ wr = w1 ∧ Kp (∀ j, j < kk → j < 80 ∧ (es.getD j default).1.size ≤ 100))
  case atStart => exact ⟨0, Nat.zero_le _, by omega, rfl, rfl, ⟨fun j hj => absurd hj (Nat.not_lt_zero _)⟩⟩
  case round =>
    obtain ⟨kk, hkk, hg, rfl, rfl, N⟩ := hrel
    by_cases hlt : kk < es.length
    · have hltz : (kk : Int) < (es.length : Int) := by omega
      obtain ⟨b, o, rfl, hb, hcc⟩ := H3.out (by simpa using (by omega : 0 < es.length))
      have l1 := Fr.cell (hcc kk hlt).1 f1 (fun h => h)
      have fin : 80 ≤ kk ∨ 100 < (es.getD kk default).1.size → x = false := fun h => by rw [← HX.out]; exact few_not hlt h
      have nxt : kk < 80 → (es.getD kk default).1.size ≤ 100 → ∀ j, j < kk + 1 → j < 80 ∧ (es.getD j default).1.size ≤ 100 := fun h1 h2 j hj => by
        by_cases e : j = kk
        · rw [e]; exact ⟨h1, h2⟩
        · exact N.out j (by omega)
      clear hcc
      generalize (es.getD kk default).1 = y at l1 fin nxt
      by_cases h80 : kk < 80
      · have h80z : ¬ (80 : Int) ≤ (kk : Int) := by omega
        have h80y : (kk : Int) < 80 := by omega
        by_cases h100 : y.size ≤ 100
        · have h100z : ¬ (100 : Int) < (y.size : Int) := by omega
          have NX := Kp.mk (nxt h80 h100)
          clear nxt fin N
          go_wp2_with fail
          go_roundg (es.length - (kk + 1))
          case measure => omega
          case rel => exact ⟨kk + 1, by omega, by omega, by go_num, rfl, NX⟩
        · have h100z : (100 : Int) < (y.size : Int) := by omega
          obtain rfl : x = false := fin (.inr (by omega))
          clear nxt fin N
          go_wp2_with fail
          go_ret
          exact ⟨rfl, f1⟩
      · have h80z : (80 : Int) ≤ (kk : Int) := by omega
        obtain rfl : x = false := fin (.inl (by omega))
        clear nxt fin N
        go_wp2_with fail
        go_ret
        exact ⟨rfl, f1⟩
    · have hltz : ¬ (kk : Int) < (es.length : Int) := by omega
      obtain rfl : kk = es.length := by omega
      have hx : x = (decide (d.size ≤ 5000) && decide (t.size ≤ 500)) := by rw [← HX.out]; exact few_of N.out
      subst hx
      clear N
      by_cases h5 : d.size ≤ 5000
      · have h5z : (d.size : Int) ≤ 5000 := by omega
        go_wp2_with fail
        go_ret
        refine ⟨?_, f1⟩
        simp [h5]
        try omega
      · have h5z : ¬ (d.size : Int) ≤ 5000 := by omega
        go_wp2_with fail
        go_ret
        refine ⟨?_, f1⟩
        simp [h5]
end Go.Proofs.Ytenlokbfjajbbaa.Nd
