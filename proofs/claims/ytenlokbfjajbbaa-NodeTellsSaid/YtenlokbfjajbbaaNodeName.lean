/- name.Right: it answers whether a text is a name. Condition: the text's size is bounded, as written out. -/
import Derived.Test.YtenlokbfjajbbaaRune
set_option linter.unusedSimpArgs false
set_option linter.unusedVariables false
namespace Go.Proofs.Ytenlokbfjajbbaa.Nd
open Go Go.RowKit Go.Proofs.YtenlokbfjajbbaaW.PrintWords Go.Proofs.Ytenlokbfjajbbaa.Ev Go.Proofs.Ytenlokbfjajbbaa.Nm

theorem empty_list (s : ByteArray) : s.toList = [] ↔ s.size = 0 := by
  rw [Lib.toList_data]
  constructor
  · intro h
    have : s.data.toList.length = 0 := by rw [h]; rfl
    rw [Array.length_toList] at this
    exact this
  · intro h
    apply List.eq_nil_of_length_eq_zero
    rw [Array.length_toList]
    exact h
theorem nameB_parts (s : ByteArray) (a b c d : Bool) (h1 : decide (s.size ≤ 16) = a) (h2 : (!(s.data.toList.any badB)) = b) (h3 : (!(s.toList == [46])) = c) (h4 : (!(s.toList == [46, 46])) = d) (h0 : 1 ≤ s.size) :
    nameB s = (a && b && c && d) := by
  rw [nameB, h1, h2, h3, h4, decide_eq_true h0]
  simp

set_option maxHeartbeats 1000000 in
theorem name_any (s : ByteArray) (w : World) (hs : s.size < 4294967281) :
    Calls Try.prog 78 #[.string s] w fun e w' => e = .returned (.bool (nameB s)) ∧ Fr No w w' := by
  obtain ⟨v, hv⟩ : ∃ v, nameB s = v := ⟨_, rfl⟩
  have HV := Kp.mk hv
  rw [hv]
  clear hv
  go_enter Try.func78, Try.ntmps78
  go_wp2_with (go_at_call 96; refine (contains_any s _ hs).mono ?_; rintro e w1 ⟨rfl, f1⟩)
  all_goals
    go_ret
    refine ⟨?_, by first | exact f1 | exact Fr.refl _ _⟩
    rw [← HV.out]
    have he := empty_list s
    have hI : s.toList.isEmpty = decide (s.size = 0) := by rw [Bool.eq_iff_iff, List.isEmpty_iff, he, decide_eq_true_eq]
    clear HV
    refine congrArg (fun b => Ending.returned (Value.bool b)) ?_
    simp only [nameB, Nat.one_le_iff_ne_zero]
    simp_all
    all_goals try (intro h; omega)
    all_goals try (rw [decide_eq_true (show s.size ≤ 16 by omega), show s.toList.isEmpty = false from by rw [← Bool.not_eq_true, List.isEmpty_iff]; assumption]; rfl)
end Go.Proofs.Ytenlokbfjajbbaa.Nd
