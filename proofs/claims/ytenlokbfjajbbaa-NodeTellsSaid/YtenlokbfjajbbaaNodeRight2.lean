/- node.Right. Conditions: the names' sizes are bounded, as written out. -/
import Derived.Test.YtenlokbfjajbbaaNodeRight
set_option linter.unusedSimpArgs false
set_option linter.unusedVariables false
namespace Go.Proofs.Ytenlokbfjajbbaa.Nd
open Go Go.RowKit Go.Proofs.YtenlokbfjajbbaaW.PrintWords Go.Proofs.Ytenlokbfjajbbaa.Ev

theorem size_zero (s : ByteArray) : (s.toList == ([] : List UInt8)) = decide (s.size = 0) := by
  rw [Bool.eq_iff_iff, beq_iff_eq, decide_eq_true_eq, empty_list]
theorem isEmpty_size (s : ByteArray) : s.toList.isEmpty = decide (s.size = 0) := by
  rw [Bool.eq_iff_iff, List.isEmpty_iff, decide_eq_true_eq, empty_list]

set_option maxHeartbeats 4000000 in
set_option maxRecDepth 100000 in
theorem right_any (N : Nd) (v : Value) (W : World) (hs : EntS W v N.ents) (hz : Small N.ents) :
    Calls Try.prog 47 #[ndV N v] W fun e w' => e = .returned (.bool (rightB N)) ∧ Fr No W w' := by
  have HS := Kp.mk hs
  obtain ⟨A, c, rfl, h1, h2, h3⟩ := hs.out
  obtain ⟨k, m, d, t, es⟩ := N
  obtain ⟨x, hx⟩ : ∃ x, rightB ⟨k, m, d, t, es⟩ = x := ⟨_, rfl⟩
  rw [hx]
  have HX := Kp.mk hx
  have HZ := Kp.mk hz
  have hlm : (es.length : Int) ≤ 9223372036854775807 := by have : es.length ≤ c := h1; omega
  clear hs hx hz h3 h2 h1
  go_enter Try.func47, Try.ntmps47
  go_wp2_with (first
    | ((with_reducible refine gate_dst (N := 1) rfl ?_); refine ev_box rfl 56 _ rfl _ rfl [.int .i64 k, .int .i64 m, .string d, .string t, .slice A es.length c] rfl ?_; intro g1 w1 hg1 f1 b1; have c0 := b1.at_ 0 rfl; have c1 := b1.at_ 1 rfl; have c2 := b1.at_ 2 rfl; have c3 := b1.at_ 3 rfl; have c4 := b1.at_ 4 rfl)
    | (go_at_call 85; refine (rising_any _ es _ (HS.out.no f1) HZ.out).mono ?_; rintro e w2 ⟨rfl, f2⟩))
  all_goals
    go_ret
    refine ⟨?_, by first | exact f1 | exact f1.no f2⟩
    rw [← HX.out]
    clear HX
    have hd := empty_list d
    have ht := empty_list t
    have hdi := isEmpty_size d
    have hti := isEmpty_size t
    refine congrArg (fun b => Ending.returned (Value.bool b)) ?_
    simp only [rightB]
  · simp_all
    try omega
  · simp_all
    rw [decide_eq_false (show ¬ m < 0 by omega), decide_eq_false (show ¬ 511 < m by omega), Bool.eq_iff_iff]
    simp
    try omega
  · simp_all
    try omega
  · simp_all
    try omega
  · simp_all
    try omega
  · simp_all
    try omega
  · simp_all
    try omega
  · simp_all
    try omega
  · simp_all
    rw [decide_eq_false (show ¬ m < 0 by omega), decide_eq_false (show ¬ 511 < m by omega), isEmpty_size, Bool.eq_iff_iff]
    simp only [Bool.and_eq_true, Bool.not_eq_true', decide_eq_true_eq, decide_eq_false_iff_not, Bool.not_false, true_and]
    omega
  · simp_all
    try omega
  · simp_all
    try omega
  · simp_all
    try omega
  · simp_all
    try omega
end Go.Proofs.Ytenlokbfjajbbaa.Nd
