/- The law's first guard: the program's digests at three texts. No conditions. -/
import Derived.Test.YtenlokbfjajbbaaRefDig
set_option linter.unusedSimpArgs false
set_option linter.unusedVariables false
namespace Go.Proofs.Ytenlokbfjajbbaa.RefSum
open Go Go.RowKit Go.Proofs.Ytenlokbfjajbbaa.Sha Go.Proofs.YtenlokbfjajbbaaW.PrintWords Go.Proofs.YtenlokbfjajbbaaW.PrintLast Go.Proofs.Ytenlokbfjajbbaa.PDigestTells Go.Proofs.Ytenlokbfjajbbaa.Reg Go.Proofs.Ytenlokbfjajbbaa.Ev Go.Proofs.Ytenlokbfjajbbaa.Press Go.Proofs.Ytenlokbfjajbbaa.Dig

theorem blk_strs {w : World} {g : Nat} (xs : List ByteArray) (h : Blk w g 9 (xs.map .string)) (hm : xs.length ≤ maxLen) : Strs w (some ⟨g, 0, none⟩) xs := by
  obtain ⟨A, c, h1, h2, h3⟩ := own_strs (Blk.owns (n := xs.length) (base := 0) h (by simp) hm (Nat.zero_le _)) rfl
  injection h1 with h1
  rw [h1]
  exact h3
theorem nil_strs (w : World) : Strs w none [] := by
  obtain ⟨A, c, h1, h2, h3⟩ := own_strs (xs := []) (World.ownsRow_nil w 0 9 1) rfl
  injection h1 with h1
  rw [h1]
  exact h3

set_option maxRecDepth 1000000 in
theorem hex0 : decide (hexL (sumL (cat [])) = [101, 51, 98, 48, 99, 52, 52, 50, 57, 56, 102, 99, 49, 99, 49, 52, 57, 97, 102, 98, 102, 52, 99, 56, 57, 57, 54, 102, 98, 57, 50, 52, 50, 55, 97, 101, 52, 49, 101, 52, 54, 52, 57, 98, 57, 51, 52, 99, 97, 52, 57, 53, 57, 57, 49, 98, 55, 56, 53, 50, 98, 56, 53, 53]) = true := by kernel_rfl
set_option maxRecDepth 1000000 in
theorem hex1 : decide (hexL (sumL (cat [bs [97], bs [98, 99]])) = [98, 97, 55, 56, 49, 54, 98, 102, 56, 102, 48, 49, 99, 102, 101, 97, 52, 49, 52, 49, 52, 48, 100, 101, 53, 100, 97, 101, 50, 50, 50, 51, 98, 48, 48, 51, 54, 49, 97, 51, 57, 54, 49, 55, 55, 97, 57, 99, 98, 52, 49, 48, 102, 102, 54, 49, 102, 50, 48, 48, 49, 53, 97, 100]) = true := by kernel_rfl
theorem cat1 : cat (joinX 1 [bs [97]]) = [1, 0, 0, 0, 1, 97] := by decide +kernel
theorem cat2 : cat [bs [1, 0, 0, 0, 1, 97]] = [1, 0, 0, 0, 1, 97] := by decide +kernel
theorem hex3 : hexL [15] = [48, 102] := by decide +kernel

/-- What the first guard asks of the program's digests. -/
structure Guard (a b c : List UInt8) : Prop where
  s0 : ∀ w : World, Calls Try.prog 13 #[.slice none 0 0] w fun e w' => e = .returned (.string (bs a)) ∧ Below w.heap.size w w'
  d0 : ∀ w : World, Calls Try.prog 17 #[.string (bs a)] w fun e w' => e = .returned (.string ⟨#[101, 51, 98, 48, 99, 52, 52, 50, 57, 56, 102, 99, 49, 99, 49, 52, 57, 97, 102, 98, 102, 52, 99, 56, 57, 57, 54, 102, 98, 57, 50, 52, 50, 55, 97, 101, 52, 49, 101, 52, 54, 52, 57, 98, 57, 51, 52, 99, 97, 52, 57, 53, 57, 57, 49, 98, 55, 56, 53, 50, 98, 56, 53, 53]⟩) ∧ Below w.heap.size w w'
  s1 : ∀ (w : World) (g : Nat), Blk w g 9 [.string ⟨#[97]⟩, .string ⟨#[98, 99]⟩] → Calls Try.prog 13 #[.slice (some ⟨g, 0, none⟩) 2 2] w fun e w' => e = .returned (.string (bs b)) ∧ Below w.heap.size w w'
  d1 : ∀ w : World, Calls Try.prog 17 #[.string (bs b)] w fun e w' => e = .returned (.string ⟨#[98, 97, 55, 56, 49, 54, 98, 102, 56, 102, 48, 49, 99, 102, 101, 97, 52, 49, 52, 49, 52, 48, 100, 101, 53, 100, 97, 101, 50, 50, 50, 51, 98, 48, 48, 51, 54, 49, 97, 51, 57, 54, 49, 55, 55, 97, 57, 99, 98, 52, 49, 48, 102, 102, 54, 49, 102, 50, 48, 48, 49, 53, 97, 100]⟩) ∧ Below w.heap.size w w'
  j2 : ∀ (w : World) (g : Nat), Blk w g 9 [.string ⟨#[97]⟩] → Calls Try.prog 15 #[.int .u8 1, .slice (some ⟨g, 0, none⟩) 1 1] w fun e w' => e = .returned (.string (bs c)) ∧ Below w.heap.size w w'
  s2 : ∀ (w : World) (g : Nat), Blk w g 9 [.string ⟨#[1, 0, 0, 0, 1, 97]⟩] → Calls Try.prog 13 #[.slice (some ⟨g, 0, none⟩) 1 1] w fun e w' => e = .returned (.string (bs c)) ∧ Below w.heap.size w w'
  d3 : ∀ w : World, Calls Try.prog 17 #[.string ⟨#[15]⟩] w fun e w' => e = .returned (.string ⟨#[48, 102]⟩) ∧ Below w.heap.size w w'

theorem guard : Guard (sumL (cat [])) (sumL (cat [bs [97], bs [98, 99]])) (sumL [1, 0, 0, 0, 1, 97]) where
  s0 w := sum_any none 0 [] w (nil_strs w) (Nat.le_refl _) (by decide) (by decide)
  d0 w := by
    have := digits_any (sumL (cat [])) w (by rw [sumL_len]; decide)
    rw [of_decide_eq_true hex0] at this
    exact this
  s1 w g h := sum_any (some ⟨g, 0, none⟩) 2 [bs [97], bs [98, 99]] w (blk_strs [bs [97], bs [98, 99]] h (by simp [maxLen])) (Nat.le_refl _) (by decide) (by decide)
  d1 w := by
    have := digits_any (sumL (cat [bs [97], bs [98, 99]])) w (by rw [sumL_len]; decide)
    rw [of_decide_eq_true hex1] at this
    exact this
  j2 w g h := by
    have := dJoin_any 1 (some ⟨g, 0, none⟩) 1 [bs [97]] w (blk_strs [bs [97]] h (by simp [maxLen])) (Nat.le_refl _) (by decide) (by decide)
    rw [cat1] at this
    exact this
  s2 w g h := by
    have := sum_any (some ⟨g, 0, none⟩) 1 [bs [1, 0, 0, 0, 1, 97]] w (blk_strs [bs [1, 0, 0, 0, 1, 97]] h (by simp [maxLen])) (Nat.le_refl _) (by decide) (by decide)
    rw [cat2] at this
    exact this
  d3 w := by
    have := digits_any [15] w (by decide)
    rw [hex3] at this
    exact this

set_option maxHeartbeats 1000000 in
set_option maxRecDepth 100000 in
theorem awake_any (w : World) : Calls Try.prog 11 #[] w fun e w' => e = .returned (.bool true) ∧ Below w.heap.size w w' := by
  obtain ⟨a, b, c, G⟩ : ∃ a b c, Guard a b c := ⟨_, _, _, guard⟩
  go_enter Try.func11, Try.ntmps11
  go_wp2_with (first
    | (go_at_call 13; with_reducible refine (G.s0 _).mono ?_; rintro e w1 ⟨rfl, hb1⟩)
    | (go_at_call 17; with_reducible refine (G.d0 _).mono ?_; rintro e w2 ⟨rfl, hb2⟩)
    | (go_at_call 13; with_reducible refine (G.s1 _ _ (Blk.new _ 9 [.string ⟨#[97]⟩, .string ⟨#[98, 99]⟩])).mono ?_; rintro e w4 ⟨rfl, hb4⟩)
    | (go_at_call 17; with_reducible refine (G.d1 _).mono ?_; rintro e w5 ⟨rfl, hb5⟩)
    | (go_at_call 15; with_reducible refine (G.j2 _ _ (Blk.new _ 9 [.string ⟨#[97]⟩])).mono ?_; rintro e w7 ⟨rfl, hb7⟩)
    | (go_at_call 13; with_reducible refine (G.s2 _ _ (Blk.new _ 9 [.string ⟨#[1, 0, 0, 0, 1, 97]⟩])).mono ?_; rintro e w9 ⟨rfl, hb9⟩)
    | (go_at_call 17; with_reducible refine (G.d3 _).mono ?_; rintro e w10 ⟨rfl, hb10⟩))
  go_ret
  exact ⟨by simp, ((((((((((Fr.of_below hb1).no (Fr.of_below hb2)).no (Fr.alloc _ _)).no (Fr.of_below hb4)).no (Fr.of_below hb5)).no (Fr.alloc _ _)).no (Fr.of_below hb7)).no (Fr.alloc _ _)).no (Fr.of_below hb9)).no (Fr.of_below hb10)).below⟩
end Go.Proofs.Ytenlokbfjajbbaa.RefSum
