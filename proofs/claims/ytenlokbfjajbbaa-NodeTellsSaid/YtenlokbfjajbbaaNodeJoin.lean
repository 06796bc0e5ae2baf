/- node.With and node.Print, whole. Conditions: sizes are bounded, as written out. -/
import Derived.Test.YtenlokbfjajbbaaNodeFew
set_option linter.unusedSimpArgs false
set_option linter.unusedVariables false
namespace Go.Proofs.Ytenlokbfjajbbaa.Nd
open Go Go.RowKit Go.Proofs.YtenlokbfjajbbaaW.PrintWords Go.Proofs.Ytenlokbfjajbbaa.Ev Go.Proofs.Ytenlokbfjajbbaa.Reg Go.Proofs.Ytenlokbfjajbbaa.Sb

theorem print_any (N : Nd) (v : Value) (W : World) (hs : EntS W v N.ents) (hz : Small N.ents) (hm : N.data.size ≤ 1099511627776) (hm2 : N.target.size ≤ 1099511627776) :
    Calls Try.prog 37 #[ndV N v] W fun e w' => e = .returned (.tuple #[.string (printN N).1, .int .i64 (printN N).2]) ∧ Fr No W w' := by
  by_cases hr : rightB N = true
  · have h := print_is N v W hs hz hr hm hm2
    rw [printN, if_pos hr]
    exact h
  · have h := print_not N v W hs hz (by simpa using hr)
    rw [printN, if_neg hr]
    exact h

theorem with_any (N : Nd) (v : Value) (n : ByteArray) (ino : Int) (W : World) (hs : EntS W v N.ents) (hz : n.size < 4294967281) (hl : N.ents.length ≤ 1099511627776) :
    Calls Try.prog 43 #[ndV N v, .string n, .int .i64 ino] W fun e w' => Gives W (withN N n ino).1 (withN N n ino).2 e w' := by
  obtain ⟨k, m, d, t, es⟩ := N
  obtain ⟨R, hR⟩ : ∃ R, withN ⟨k, m, d, t, es⟩ n ino = R := ⟨_, rfl⟩
  rw [hR]
  by_cases hk : k = 2
  · obtain ⟨fi, fb, hf⟩ : ∃ fi fb, findN ⟨k, m, d, t, es⟩ n = (fi, fb) := ⟨_, _, rfl⟩
    cases hn : nameB n with
    | false =>
      have hr : R = (zeroN, 14) := by rw [← hR]; simp [withN, hk, hn]
      subst hr
      exact with_bad k m d t n es v ino W hs hk hz fi fb false hf hn 14 hl (.inl ⟨rfl, rfl⟩)
    | true =>
      cases fb with
      | true =>
        have hr : R = (zeroN, 5) := by rw [← hR]; simp [withN, hk, hn, hk ▸ hf]
        subst hr
        exact with_bad k m d t n es v ino W hs hk hz fi true true hf hn 5 hl (.inr (.inl ⟨rfl, rfl, rfl⟩))
      | false =>
        by_cases h64 : 64 ≤ es.length
        · have hr : R = (zeroN, 3) := by rw [← hR]; simp [withN, hk, hn, hk ▸ hf, h64]
          subst hr
          exact with_bad k m d t n es v ino W hs hk hz fi false true hf hn 3 hl (.inr (.inr ⟨rfl, rfl, h64, rfl⟩))
        · have hr : R = (⟨k, m, d, t, putE es (n, ino)⟩, 0) := by rw [← hR]; simp [withN, hk, hn, hk ▸ hf, h64]
          subst hr
          exact with_good k m d t n es v ino W hs hk hz fi hf hn (by omega)
  · have hr : R = (zeroN, 10) := by rw [← hR]; simp [withN, hk]
    subst hr
    exact with_kind k m d t n es v ino W hs hk
end Go.Proofs.Ytenlokbfjajbbaa.Nd
