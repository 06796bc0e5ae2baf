/- The law NameWithin: it says yes. Condition: the library's variable is set. -/
import Derived.Test.YtenlokbfjajbbaaDoorPaAwake
set_option linter.unusedSimpArgs false
set_option linter.unusedVariables false
namespace Go.Proofs.YtenlokbfjajbbaaDoor.Pa
open Go Go.RowKit Go.Proofs.YtenlokbfjajbbaaDoorW.PrintWords Go.Proofs.YtenlokbfjajbbaaDoor.Ev Go.Proofs.YtenlokbfjajbbaaDoor.Nd

theorem ext_all (a : ByteArray) : a.extract 0 a.size = a := by
  rw [← ba_data (a.extract 0 a.size), Lib.extract_from_zero, Lib.size_eq, List.take_length]
theorem ext_begin {a b : ByteArray} {r : List UInt8} (h : b.data.toList = a.data.toList ++ r) : b.extract 0 a.size = a := by
  rw [← ba_data (b.extract 0 a.size), Lib.extract_from_zero, h, Lib.size_eq, List.take_left']
  rfl
theorem at_end {a b : ByteArray} {c : UInt8} {r : List UInt8} (h : b.data.toList = a.data.toList ++ c :: r) (hl : a.size < b.size) : b[a.size]'hl = c := by
  have h1 : b.data.toList[a.size]? = some c := by rw [h, Lib.size_eq, List.getElem?_append_right (Nat.le_refl _), Nat.sub_self]; rfl
  rw [Array.getElem?_toList, Array.getElem?_eq_some_iff] at h1
  exact h1.2

set_option maxHeartbeats 4000000 in
set_option maxRecDepth 100000 in
theorem within_law (a b c : ByteArray) (W : World) (hg : Glob W) :
    Calls Tryd.prog 5 #[.string a, .string b, .string c] W fun e w' => e = .returned (.bool true) ∧ Fr No W w' := by
  have HG := Kp.mk hg
  have CW : Kp (∀ x y w, Glob w → x.size ≤ 500 → y.size ≤ 500 → Calls Tryd.prog 16 #[.string x, .string y] w fun e w' => e = .returned (.bool (withinB x y)) ∧ Fr No w w') := ⟨fun x y w g h1 h2 => within_any x y w g (by omega) (by omega)⟩
  clear hg
  by_cases ha : a.size ≤ 500
  · have haz : ¬ (500 : Int) < (a.size : Int) := by omega
    by_cases hb : b.size ≤ 500
    · have hbz : ¬ (500 : Int) < (b.size : Int) := by omega
      by_cases hc : c.size ≤ 500
      · have hcz : ¬ (500 : Int) < (c.size : Int) := by omega
        have CS : Kp (∀ w, Glob w → Calls Tryd.prog 7 #[.string a] w fun e w' => Tell w (splitP a).1 (splitP a).2 e w') := ⟨fun w h => split_any a w h (by omega)⟩
        have haa := within_self a
        have hsc := split_code a
        cases hab : withinB a b with
        | false =>
          have HAB := Kp.mk hab
          clear hab
          rcases hsc with h0 | h0
          · rw [h0] at CS haa
            have HAA : Kp (withinB a a = true) := ⟨by rw [haa]; rfl⟩
            clear haa h0
            (go_enter Tryd.func5, Tryd.ntmps5; go_wp2_with (first | (go_at_call 6; go_must (refine (awake_any _ HG.out).mono ?_); rintro e w1 ⟨rfl, F⟩; have HG := Kp.mk (HG.out.no F)) | (go_at_call 7; go_must (refine (CS.out _ HG.out).mono ?_); rintro e w2 ⟨v, rfl, hv, f2⟩; have HG := Kp.mk (HG.out.no f2); have F := F.no f2) | (go_at_call 16; go_must (refine (CW.out _ _ _ HG.out (by assumption) (by assumption)).mono ?_); rintro e w3 ⟨rfl, f3⟩; have HG := Kp.mk (HG.out.no f3); have F := F.no f3; (first | rw [HAB.out] | rw [HBA.out] | rw [HBC.out] | rw [HAC.out] | rw [HAA.out] | skip))); go_ret; exact ⟨rfl, F⟩)
          · rw [h0] at CS haa
            have HAA : Kp (withinB a a = false) := ⟨by rw [haa]; rfl⟩
            clear haa h0
            (go_enter Tryd.func5, Tryd.ntmps5; go_wp2_with (first | (go_at_call 6; go_must (refine (awake_any _ HG.out).mono ?_); rintro e w1 ⟨rfl, F⟩; have HG := Kp.mk (HG.out.no F)) | (go_at_call 7; go_must (refine (CS.out _ HG.out).mono ?_); rintro e w2 ⟨v, rfl, hv, f2⟩; have HG := Kp.mk (HG.out.no f2); have F := F.no f2) | (go_at_call 16; go_must (refine (CW.out _ _ _ HG.out (by assumption) (by assumption)).mono ?_); rintro e w3 ⟨rfl, f3⟩; have HG := Kp.mk (HG.out.no f3); have F := F.no f3; (first | rw [HAB.out] | rw [HBA.out] | rw [HBC.out] | rw [HAC.out] | rw [HAA.out] | skip))); go_ret; exact ⟨rfl, F⟩)
        | true =>
          have he := ((within_iff a b).1 hab).1
          rw [he] at CS haa
          have HAA : Kp (withinB a a = true) := ⟨by rw [haa]; rfl⟩
          have hby := within_bytes hab
          clear hsc haa he
          cases hba : withinB b a with
          | true =>
            obtain rfl := within_anti hab hba
            have hx := ext_all a
            clear hab hba hby
            cases hbc : withinB a c with
            | true =>
              have HBC := Kp.mk hbc
              clear hbc
              by_cases hs : a.toList = [47]
              · (go_enter Tryd.func5, Tryd.ntmps5; go_wp2_with (first | (go_at_call 6; go_must (refine (awake_any _ HG.out).mono ?_); rintro e w1 ⟨rfl, F⟩; have HG := Kp.mk (HG.out.no F)) | (go_at_call 7; go_must (refine (CS.out _ HG.out).mono ?_); rintro e w2 ⟨v, rfl, hv, f2⟩; have HG := Kp.mk (HG.out.no f2); have F := F.no f2) | (go_at_call 16; go_must (refine (CW.out _ _ _ HG.out (by assumption) (by assumption)).mono ?_); rintro e w3 ⟨rfl, f3⟩; have HG := Kp.mk (HG.out.no f3); have F := F.no f3; (first | rw [HAB.out] | rw [HBA.out] | rw [HBC.out] | rw [HAC.out] | rw [HAA.out] | skip))); go_ret; exact ⟨rfl, F⟩)
              · (go_enter Tryd.func5, Tryd.ntmps5; go_wp2_with (first | (go_at_call 6; go_must (refine (awake_any _ HG.out).mono ?_); rintro e w1 ⟨rfl, F⟩; have HG := Kp.mk (HG.out.no F)) | (go_at_call 7; go_must (refine (CS.out _ HG.out).mono ?_); rintro e w2 ⟨v, rfl, hv, f2⟩; have HG := Kp.mk (HG.out.no f2); have F := F.no f2) | (go_at_call 16; go_must (refine (CW.out _ _ _ HG.out (by assumption) (by assumption)).mono ?_); rintro e w3 ⟨rfl, f3⟩; have HG := Kp.mk (HG.out.no f3); have F := F.no f3; (first | rw [HAB.out] | rw [HBA.out] | rw [HBC.out] | rw [HAC.out] | rw [HAA.out] | skip))); go_ret; exact ⟨rfl, F⟩)
            | false =>
              have HBC := Kp.mk hbc
              clear hbc
              by_cases hs : a.toList = [47]
              · (go_enter Tryd.func5, Tryd.ntmps5; go_wp2_with (first | (go_at_call 6; go_must (refine (awake_any _ HG.out).mono ?_); rintro e w1 ⟨rfl, F⟩; have HG := Kp.mk (HG.out.no F)) | (go_at_call 7; go_must (refine (CS.out _ HG.out).mono ?_); rintro e w2 ⟨v, rfl, hv, f2⟩; have HG := Kp.mk (HG.out.no f2); have F := F.no f2) | (go_at_call 16; go_must (refine (CW.out _ _ _ HG.out (by assumption) (by assumption)).mono ?_); rintro e w3 ⟨rfl, f3⟩; have HG := Kp.mk (HG.out.no f3); have F := F.no f3; (first | rw [HAB.out] | rw [HBA.out] | rw [HBC.out] | rw [HAC.out] | rw [HAA.out] | skip))); go_ret; exact ⟨rfl, F⟩)
              · (go_enter Tryd.func5, Tryd.ntmps5; go_wp2_with (first | (go_at_call 6; go_must (refine (awake_any _ HG.out).mono ?_); rintro e w1 ⟨rfl, F⟩; have HG := Kp.mk (HG.out.no F)) | (go_at_call 7; go_must (refine (CS.out _ HG.out).mono ?_); rintro e w2 ⟨v, rfl, hv, f2⟩; have HG := Kp.mk (HG.out.no f2); have F := F.no f2) | (go_at_call 16; go_must (refine (CW.out _ _ _ HG.out (by assumption) (by assumption)).mono ?_); rintro e w3 ⟨rfl, f3⟩; have HG := Kp.mk (HG.out.no f3); have F := F.no f3; (first | rw [HAB.out] | rw [HBA.out] | rw [HBC.out] | rw [HAC.out] | rw [HAA.out] | skip))); go_ret; exact ⟨rfl, F⟩)
          | false =>
            have HAB := Kp.mk hab
            have HBA := Kp.mk hba
            have hne : b ≠ a := fun h => by rw [h, HAA.out] at hba; cases hba
            clear hba
            have hcase : a.toList = [47] ∨ (¬ a.toList = [47] ∧ (a.size : Int) ≤ (b.size : Int) ∧ ¬ (b.size : Int) = (a.size : Int) ∧ (a.size : Int) < (b.size : Int) ∧ b.extract 0 a.size = a ∧ ∀ hl : a.size < b.size, b[a.size]'hl = 47) := by
              by_cases hs : a.toList = [47]
              · exact .inl hs
              · right
                rcases hby with h | h | ⟨r, h⟩
                · exact absurd (by rw [Lib.toList_data]; exact h) hs
                · exact absurd h hne
                · have hsz : b.size = a.size + 1 + r.length := by rw [Lib.size_eq b, h, Lib.size_eq a]; simp; omega
                  exact ⟨hs, by omega, by omega, by omega, ext_begin h, fun hl => at_end h hl⟩
            clear hby hne
            cases hbc : withinB b c with
            | true =>
              have HAC := Kp.mk (within_trans hab hbc)
              have HBC := Kp.mk hbc
              clear hbc hab
              rcases hcase with hs | ⟨hs, q1, q2, q3, q4, q5⟩
              · (go_enter Tryd.func5, Tryd.ntmps5; go_wp2_with (first | (go_at_call 6; go_must (refine (awake_any _ HG.out).mono ?_); rintro e w1 ⟨rfl, F⟩; have HG := Kp.mk (HG.out.no F)) | (go_at_call 7; go_must (refine (CS.out _ HG.out).mono ?_); rintro e w2 ⟨v, rfl, hv, f2⟩; have HG := Kp.mk (HG.out.no f2); have F := F.no f2) | (go_at_call 16; go_must (refine (CW.out _ _ _ HG.out (by assumption) (by assumption)).mono ?_); rintro e w3 ⟨rfl, f3⟩; have HG := Kp.mk (HG.out.no f3); have F := F.no f3; (first | rw [HAB.out] | rw [HBA.out] | rw [HBC.out] | rw [HAC.out] | rw [HAA.out] | skip))); go_ret; exact ⟨rfl, F⟩)
              · have q6 := q5 (by omega)
                (go_enter Tryd.func5, Tryd.ntmps5; go_wp2_with (first | (go_at_call 6; go_must (refine (awake_any _ HG.out).mono ?_); rintro e w1 ⟨rfl, F⟩; have HG := Kp.mk (HG.out.no F)) | (go_at_call 7; go_must (refine (CS.out _ HG.out).mono ?_); rintro e w2 ⟨v, rfl, hv, f2⟩; have HG := Kp.mk (HG.out.no f2); have F := F.no f2) | (go_at_call 16; go_must (refine (CW.out _ _ _ HG.out (by assumption) (by assumption)).mono ?_); rintro e w3 ⟨rfl, f3⟩; have HG := Kp.mk (HG.out.no f3); have F := F.no f3; (first | rw [HAB.out] | rw [HBA.out] | rw [HBC.out] | rw [HAC.out] | rw [HAA.out] | skip))); go_ret; exact ⟨rfl, F⟩)
            | false =>
              have HBC := Kp.mk hbc
              clear hbc hab
              rcases hcase with hs | ⟨hs, q1, q2, q3, q4, q5⟩
              · (go_enter Tryd.func5, Tryd.ntmps5; go_wp2_with (first | (go_at_call 6; go_must (refine (awake_any _ HG.out).mono ?_); rintro e w1 ⟨rfl, F⟩; have HG := Kp.mk (HG.out.no F)) | (go_at_call 7; go_must (refine (CS.out _ HG.out).mono ?_); rintro e w2 ⟨v, rfl, hv, f2⟩; have HG := Kp.mk (HG.out.no f2); have F := F.no f2) | (go_at_call 16; go_must (refine (CW.out _ _ _ HG.out (by assumption) (by assumption)).mono ?_); rintro e w3 ⟨rfl, f3⟩; have HG := Kp.mk (HG.out.no f3); have F := F.no f3; (first | rw [HAB.out] | rw [HBA.out] | rw [HBC.out] | rw [HAC.out] | rw [HAA.out] | skip))); go_ret; exact ⟨rfl, F⟩)
              · have q6 := q5 (by omega)
                (go_enter Tryd.func5, Tryd.ntmps5; go_wp2_with (first | (go_at_call 6; go_must (refine (awake_any _ HG.out).mono ?_); rintro e w1 ⟨rfl, F⟩; have HG := Kp.mk (HG.out.no F)) | (go_at_call 7; go_must (refine (CS.out _ HG.out).mono ?_); rintro e w2 ⟨v, rfl, hv, f2⟩; have HG := Kp.mk (HG.out.no f2); have F := F.no f2) | (go_at_call 16; go_must (refine (CW.out _ _ _ HG.out (by assumption) (by assumption)).mono ?_); rintro e w3 ⟨rfl, f3⟩; have HG := Kp.mk (HG.out.no f3); have F := F.no f3; (first | rw [HAB.out] | rw [HBA.out] | rw [HBC.out] | rw [HAC.out] | rw [HAA.out] | skip))); go_ret; exact ⟨rfl, F⟩)
      · have hcz : (500 : Int) < (c.size : Int) := by omega
        go_enter Tryd.func5, Tryd.ntmps5
        go_wp2_with (first | (go_at_call 6; go_must (refine (awake_any _ HG.out).mono ?_); rintro e w1 ⟨rfl, F⟩))
        go_ret
        exact ⟨rfl, F⟩
    · have hbz : (500 : Int) < (b.size : Int) := by omega
      go_enter Tryd.func5, Tryd.ntmps5
      go_wp2_with (first | (go_at_call 6; go_must (refine (awake_any _ HG.out).mono ?_); rintro e w1 ⟨rfl, F⟩))
      go_ret
      exact ⟨rfl, F⟩
  · have haz : (500 : Int) < (a.size : Int) := by omega
    go_enter Tryd.func5, Tryd.ntmps5
    go_wp2_with (first | (go_at_call 6; go_must (refine (awake_any _ HG.out).mono ?_); rintro e w1 ⟨rfl, F⟩))
    go_ret
    exact ⟨rfl, F⟩
end Go.Proofs.YtenlokbfjajbbaaDoor.Pa
