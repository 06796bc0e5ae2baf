/- The name law's awake. Condition: the library's variable is set. -/
import Derived.Test.YtenlokbfjajbbaaDoorPaWithin
set_option linter.unusedSimpArgs false
set_option linter.unusedVariables false
namespace Go.Proofs.YtenlokbfjajbbaaDoor.Pa
open Go Go.RowKit Go.Proofs.YtenlokbfjajbbaaDoorW.PrintWords Go.Proofs.YtenlokbfjajbbaaDoor.Ev Go.Proofs.YtenlokbfjajbbaaDoor.Nd

theorem aw1 : splitP ⟨#[47, 97, 47, 98]⟩ = ([⟨#[97]⟩, ⟨#[98]⟩], 0) := by decide +kernel
theorem aw2 : joinP [⟨#[97]⟩, ⟨#[98]⟩] = (⟨#[47, 97, 47, 98]⟩, 0) := by decide +kernel
theorem aw3 : parentP ⟨#[47, 97, 47, 98]⟩ = (⟨#[47, 97]⟩, ⟨#[98]⟩, 0) := by decide +kernel
theorem aw4 : splitP ⟨#[97]⟩ = ([], 14) := by decide +kernel
theorem aw5 : parentP ⟨#[47]⟩ = (⟨#[]⟩, ⟨#[]⟩, 17) := by decide +kernel
theorem aw6 : withinB ⟨#[47]⟩ ⟨#[47, 97]⟩ = true := by decide +kernel
theorem aw7 : withinB ⟨#[47, 97]⟩ ⟨#[47, 97, 98]⟩ = false := by decide +kernel
theorem aw8 : nameB ⟨#[97]⟩ = true := by decide +kernel
theorem aw9 : nameB ⟨#[46, 46]⟩ = false := by decide +kernel

set_option maxHeartbeats 4000000 in
set_option maxRecDepth 100000 in
theorem awake_any (W : World) (hg : Glob W) : Calls Tryd.prog 6 #[] W fun e w' => e = .returned (.bool true) ∧ Fr No W w' := by
  have HG := Kp.mk hg
  clear hg
  have C1 : ∀ w, Glob w → Calls Tryd.prog 7 #[.string ⟨#[47, 97, 47, 98]⟩] w fun e w' => Tell w [⟨#[97]⟩, ⟨#[98]⟩] 0 e w' := fun w h => by
    have h := split_any ⟨#[47, 97, 47, 98]⟩ w h (by decide)
    rw [aw1] at h
    exact h
  have C2 : ∀ v w, Glob w → StrS w v [⟨#[97]⟩, ⟨#[98]⟩] → Calls Tryd.prog 9 #[v] w fun e w' => e = .returned (.tuple #[.string ⟨#[47, 97, 47, 98]⟩, .int .i64 0]) ∧ Fr No w w' := fun v w h k => by
    have h := join_any v _ w h k (by decide) (by decide)
    rw [aw2] at h
    exact h
  have C3 : ∀ w, Glob w → Calls Tryd.prog 11 #[.string ⟨#[47, 97, 47, 98]⟩] w fun e w' => e = .returned (.tuple #[.string ⟨#[47, 97]⟩, .string ⟨#[98]⟩, .int .i64 0]) ∧ Fr No w w' := fun w h => by
    have h := parent_any ⟨#[47, 97, 47, 98]⟩ w h (by decide)
    rw [aw3] at h
    exact h
  have C4 : ∀ w, Glob w → Calls Tryd.prog 7 #[.string ⟨#[97]⟩] w fun e w' => Tell w [] 14 e w' := fun w h => by
    have h := split_any ⟨#[97]⟩ w h (by decide)
    rw [aw4] at h
    exact h
  have C5 : ∀ w, Glob w → Calls Tryd.prog 11 #[.string ⟨#[47]⟩] w fun e w' => e = .returned (.tuple #[.string ⟨#[]⟩, .string ⟨#[]⟩, .int .i64 17]) ∧ Fr No w w' := fun w h => by
    have h := parent_any ⟨#[47]⟩ w h (by decide)
    rw [aw5] at h
    exact h
  have C6 : ∀ w, Glob w → Calls Tryd.prog 16 #[.string ⟨#[47]⟩, .string ⟨#[47, 97]⟩] w fun e w' => e = .returned (.bool true) ∧ Fr No w w' := fun w h => by
    have h := within_any ⟨#[47]⟩ ⟨#[47, 97]⟩ w h (by decide) (by decide)
    rw [aw6] at h
    exact h
  have C7 : ∀ w, Glob w → Calls Tryd.prog 16 #[.string ⟨#[47, 97]⟩, .string ⟨#[47, 97, 98]⟩] w fun e w' => e = .returned (.bool false) ∧ Fr No w w' := fun w h => by
    have h := within_any ⟨#[47, 97]⟩ ⟨#[47, 97, 98]⟩ w h (by decide) (by decide)
    rw [aw7] at h
    exact h
  have C8 : ∀ w, Calls Tryd.prog 13 #[.string ⟨#[97]⟩] w fun e w' => e = .returned (.bool true) ∧ Fr No w w' := fun w => by
    have h := name_any ⟨#[97]⟩ w (by decide)
    rw [aw8] at h
    exact h
  have C9 : ∀ w, Calls Tryd.prog 13 #[.string ⟨#[46, 46]⟩] w fun e w' => e = .returned (.bool false) ∧ Fr No w w' := fun w => by
    have h := name_any ⟨#[46, 46]⟩ w (by decide)
    rw [aw9] at h
    exact h
  have K1 := Kp.mk C1; have K2 := Kp.mk C2; have K3 := Kp.mk C3; have K4 := Kp.mk C4; have K5 := Kp.mk C5; have K6 := Kp.mk C6; have K7 := Kp.mk C7; have K8 := Kp.mk C8; have K9 := Kp.mk C9
  clear C1 C2 C3 C4 C5 C6 C7 C8 C9
  go_enter Tryd.func6, Tryd.ntmps6
  go_wp2_with (first
    | (go_at_call 7; refine (K1.out _ HG.out).mono ?_; rintro e w1 ⟨v, rfl, hv, F⟩; clear K1; obtain ⟨A, c, rfl, k1, k2, k3⟩ := hv.out; obtain ⟨b, o, rfl, hb, hc⟩ := k3 (by decide); have c1 : w1.cell? ⟨b, o + 1, none⟩ = some (.string ⟨#[98]⟩) := hc 1 (by decide); clear k3 hc; simp only [List.length_cons, List.length_nil] at hv k1 k2 ⊢; have HG := Kp.mk (HG.out.no F))
    | (go_at_call 9; go_must (refine (K2.out _ _ HG.out hv).mono ?_); rintro e w2 ⟨rfl, f2⟩; have F := F.no f2; have c1 := Fr.cell c1 f2 (fun h => h); have HG := Kp.mk (HG.out.no f2))
    | (go_at_call 11; refine (K3.out _ HG.out).mono ?_; rintro e w3 ⟨rfl, f3⟩; clear K3; have F := F.no f3; have c1 := Fr.cell c1 f3 (fun h => h); have HG := Kp.mk (HG.out.no f3))
    | (go_at_call 7; refine (K4.out _ HG.out).mono ?_; rintro e w4 ⟨v4, rfl, hv4, f4⟩; clear K4; have F := F.no f4; have c1 := Fr.cell c1 f4 (fun h => h); have HG := Kp.mk (HG.out.no f4))
    | (go_at_call 11; refine (K5.out _ HG.out).mono ?_; rintro e w5 ⟨rfl, f5⟩; clear K5; have F := F.no f5; have c1 := Fr.cell c1 f5 (fun h => h); have HG := Kp.mk (HG.out.no f5))
    | (go_at_call 16; refine (K6.out _ HG.out).mono ?_; rintro e w6 ⟨rfl, f6⟩; clear K6; have F := F.no f6; have HG := Kp.mk (HG.out.no f6))
    | (go_at_call 16; refine (K7.out _ HG.out).mono ?_; rintro e w7 ⟨rfl, f7⟩; clear K7; have F := F.no f7)
    | (go_at_call 13; refine (K8.out _).mono ?_; rintro e w8 ⟨rfl, f8⟩; clear K8; have F := F.no f8)
    | (go_at_call 13; go_must (refine (K9.out _).mono ?_); rintro e w9 ⟨rfl, f9⟩; clear K9; have F := F.no f9))
  go_ret
  exact ⟨rfl, F⟩
end Go.Proofs.YtenlokbfjajbbaaDoor.Pa
