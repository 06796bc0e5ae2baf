/- The law NameTells: it says yes. Condition: the library's variable is set. -/
import Derived.Test.YtenlokbfjajbbaaDoorPaRef
import Derived.Test.YtenlokbfjajbbaaDoorPaAwake
set_option linter.unusedSimpArgs false
set_option linter.unusedVariables false
namespace Go.Proofs.YtenlokbfjajbbaaDoor.Pa
open Go Go.RowKit Go.Proofs.YtenlokbfjajbbaaDoorW.PrintWords Go.Proofs.YtenlokbfjajbbaaDoor.Ev Go.Proofs.YtenlokbfjajbbaaDoor.Nd Go.Proofs.YtenlokbfjajbbaaDoor.Reg Go.Proofs.YtenlokbfjajbbaaDoor.PNameTells

theorem Fr.drawn0 {w w' : World} (h : Drawn0 w w') : Fr No w w' := by
  obtain ⟨n, rfl⟩ := h.out
  exact (Fr.refl _ _).drewN n

set_option maxHeartbeats 4000000 in
set_option maxRecDepth 100000 in
theorem tells_law (a b : ByteArray) (x : Value) (xs : List ByteArray) (W : World) (hg : Glob W) (hX : StrS W x xs) :
    Calls Tryd.prog 3 #[.string a, .string b, x] W fun e w' => e = .returned (.bool true) ∧ Fr No W w' := by
  have HG := Kp.mk hg
  clear hg
  obtain ⟨A, c, rfl, h1, h2, h3⟩ := hX.out
  have H3 := Kp.mk h3
  clear h3
  by_cases ha : a.size ≤ 500
  · have haz : ¬ (500 : Int) < (a.size : Int) := by omega
    by_cases hb : b.size ≤ 500
    · have hbz : ¬ (500 : Int) < (b.size : Int) := by omega
      by_cases hn : xs.length ≤ 30
      · have hnz : ¬ (30 : Int) < (xs.length : Int) := by omega
        have hx0 := Kp.mk hX
        go_enter Tryd.func3, Tryd.ntmps3
        go_wp2_with (first | (go_at_call 6; go_must (refine (awake_any _ HG.out).mono ?_); rintro e w1 ⟨rfl, F⟩; have HG := Kp.mk (HG.out.no F); have hX := hX.no F))
        go_loopg [7] xs.length (fun gg s7 wr => ∃ i : Nat, i ≤ xs.length ∧ xs.length - i ≤ gg ∧ s7 = .int .i64 i ∧ Kp (Fr No w1 wr) ∧ Kp (∀ j, j < i → (xs.getD j ByteArray.empty).size ≤ 100))
        case atStart => exact ⟨0, Nat.zero_le _, by omega, rfl, ⟨Fr.refl _ _⟩, ⟨fun j hj => absurd hj (Nat.not_lt_zero _)⟩⟩
        case round =>
          obtain ⟨i, hi, hgi, rfl, FK, SZ⟩ := hrel
          have hX := hX.no FK.out
          have HG := Kp.mk (HG.out.no FK.out)
          have F := F.no FK.out
          by_cases hlt : i < xs.length
          · have hltz : (i : Int) < (xs.length : Int) := by omega
            obtain ⟨bb, o, rfl, hbb, hcc⟩ := H3.out (by omega)
            have l1 := Fr.cell (hcc i hlt) F (fun h => h)
            clear hcc
            obtain ⟨y, hy⟩ : ∃ y, xs.getD i ByteArray.empty = y := ⟨_, rfl⟩
            rw [hy] at l1
            have HY := Kp.mk hy
            clear hy
            by_cases h100 : y.size ≤ 100
            · have h100z : ¬ (100 : Int) < (y.size : Int) := by omega
              go_wp2_with fail
              go_roundg (xs.length - (i + 1))
              case measure => omega
              case rel =>
                refine ⟨i + 1, by omega, by omega, by go_num, FK, ⟨fun j hj => ?_⟩⟩
                by_cases e : j = i
                · rw [e, HY.out]; exact h100
                · exact SZ.out j (by omega)
            · have h100z : (100 : Int) < (y.size : Int) := by omega
              go_wp2_with fail
              go_ret
              exact ⟨rfl, F⟩
          · obtain rfl : i = xs.length := by omega
            have hltz : ¬ (xs.length : Int) < (xs.length : Int) := by omega
            have hsz : ∀ z ∈ xs, z.size ≤ 100 := fun z hz => by
              obtain ⟨j, hj, rfl⟩ := List.getElem_of_mem hz
              have := SZ.out j hj
              rw [List.getD_eq_getElem?_getD, List.getElem?_eq_getElem hj] at this
              exact this
            have hgl : (glue (xs.map (·.data.toList))).length < 4294967280 := by
              have := glue_len (m := 100) (xs := xs.map (·.data.toList)) (fun z hz => by
                obtain ⟨q, hq, rfl⟩ := List.mem_map.1 hz
                have := hsz q hq
                rw [← Lib.size_eq]; exact this)
              rw [List.length_map] at this
              omega
            have CS : Kp (∀ w, Glob w → Calls Tryd.prog 7 #[.string a] w fun e w' => Tell w (splitP a).1 (splitP a).2 e w') := ⟨fun w h => split_any a w h (by omega)⟩
            have CS2 := Kp.mk (fun w => snapferryref09_Split.calls 10995116277760 a (splitP a).1 (splitP a).2 w (ref_split a (by omega) _ (by omega)))
            have CJ : Kp (∀ w, Glob w → StrS w (.slice A xs.length c) xs → Calls Tryd.prog 9 #[.slice A xs.length c] w fun e w' => e = .returned (.tuple #[.string (joinP xs).1, .int .i64 (joinP xs).2]) ∧ Fr No w w') := ⟨fun w g h => join_any _ xs w g h hgl (by omega)⟩
            have CJ2 : Kp (∀ w, StrS w (.slice A xs.length c) xs → Calls Tryd.prog 10 #[.slice A xs.length c] w fun e w' => e = .returned (.tuple #[.string (joinP xs).1, .int .i64 (joinP xs).2]) ∧ Drawn0 w w') := ⟨fun w h => snapferryref09_Join.calls 10995116277760 A c xs (joinP xs).1 (joinP xs).2 w (strs_kd h).1 (strs_kd h).2 (ref_join xs (fun z hz => by have := hsz z hz; omega) _ (by omega))⟩
            have CP : Kp (∀ w, Glob w → Calls Tryd.prog 11 #[.string a] w fun e w' => e = .returned (.tuple #[.string (parentP a).1, .string (parentP a).2.1, .int .i64 (parentP a).2.2]) ∧ Fr No w w') := ⟨fun w g => parent_any a w g (by omega)⟩
            have CP2 := Kp.mk (fun w => snapferryref09_Parent.calls 10995116277760 a (parentP a).1 (parentP a).2.1 (parentP a).2.2 w (ref_parent a (by omega) _ (by omega)))
            have CR : Kp (∀ w, Calls Tryd.prog 13 #[.string a] w fun e w' => e = .returned (.bool (nameB a)) ∧ Fr No w w') := ⟨fun w => name_any a w (by omega)⟩
            have CR2 := Kp.mk (fun w => snapferryref09_Right.calls 10995116277760 a (nameB a) w (ref_right a (by omega) _ (by omega)))
            have CW : Kp (∀ w, Glob w → Calls Tryd.prog 16 #[.string a, .string b] w fun e w' => e = .returned (.bool (withinB a b)) ∧ Fr No w w') := ⟨fun w g => within_any a b w g (by omega) (by omega)⟩
            have CW2 := Kp.mk (fun w => snapferryref09_Within.calls 10995116277760 a b (withinB a b) w (ref_within a b (by omega) (by omega) _ (by omega)))
            have hys := (split_names a).1
            have CT : Kp (∀ A0 c0 A1 c1 w, StrS w (.slice A0 (splitP a).1.length c0) (splitP a).1 → Kd.C Kd.string w A1 (splitP a).1.length (splitP a).1 → (splitP a).1.length ≤ c1 → Calls Tryd.prog 15 #[.slice A0 (splitP a).1.length c0, .slice A1 (splitP a).1.length c1] w fun e w' => e = .returned (.bool true) ∧ Drawn0 w w') := ⟨fun A0 c0 A1 c1 w h k k2 => snapferryref06_Texts.calls 10995116277760 A0 c0 (splitP a).1 A1 c1 (splitP a).1 true w (strs_kd h).1 (strs_kd h).2 k k2 (ref_texts _ (by omega) _ (by omega))⟩
            obtain ⟨ys, ce, hyc⟩ : ∃ ys ce, splitP a = (ys, ce) := ⟨_, _, rfl⟩
            obtain ⟨J1, J2, hJ⟩ : ∃ J1 J2, joinP xs = (J1, J2) := ⟨_, _, rfl⟩
            obtain ⟨P1, P2, P3, hP⟩ : ∃ P1 P2 P3, parentP a = (P1, P2, P3) := ⟨_, _, _, rfl⟩
            obtain ⟨nb, hnb⟩ : ∃ nb, nameB a = nb := ⟨_, rfl⟩
            obtain ⟨wb, hwb⟩ : ∃ wb, withinB a b = wb := ⟨_, rfl⟩
            rw [hyc] at CS CS2 CT
            rw [hJ] at CJ CJ2
            rw [hP] at CP CP2
            rw [hnb] at CR CR2
            rw [hwb] at CW CW2
            clear hyc hJ hP hnb hwb hys hgl hsz SZ
            go_wp2_with (first
              | (go_at_call 7; go_must (refine (CS.out _ HG.out).mono ?_); rintro e w2 ⟨v, rfl, hv, f2⟩; have HG := Kp.mk (HG.out.no f2); have hX := hX.no f2; have F := F.no f2; obtain ⟨A5, c5, rfl, k1, k2, k3⟩ := hv.out; clear k3)
              | (go_at_call 8; go_must (refine (CS2.out _).mono ?_); rintro e w3 ⟨v3, rfl, hr3, hb3⟩; have f3 := Fr.of_below hb3; have HG := Kp.mk (HG.out.no f3); have hX := hX.no f3; have hv := hv.no f3; have F := F.no f3; obtain ⟨A6, c6, rfl, m1, m2⟩ := Kd.R_reads hr3; clear hr3)
              | (go_at_call 9; go_must (refine (CJ.out _ HG.out hX).mono ?_); rintro e w4 ⟨rfl, f4⟩; have HG := Kp.mk (HG.out.no f4); have hX := hX.no f4; have hv := hv.no f4; have m2 := Kd.C_below m2 f4.below; have F := F.no f4)
              | (go_at_call 10; go_must (refine (CJ2.out _ hX).mono ?_); rintro e w5 ⟨rfl, d5⟩; have f5 := Fr.drawn0 d5; have HG := Kp.mk (HG.out.no f5); have hX := hX.no f5; have hv := hv.no f5; have m2 := Kd.C_below m2 f5.below; have F := F.no f5)
              | (go_at_call 11; go_must (refine (CP.out _ HG.out).mono ?_); rintro e w6 ⟨rfl, f6⟩; have HG := Kp.mk (HG.out.no f6); have hv := hv.no f6; have m2 := Kd.C_below m2 f6.below; have F := F.no f6)
              | (go_at_call 12; go_must (refine (CP2.out _).mono ?_); rintro e w7 ⟨rfl, hb7⟩; have f7 := Fr.of_below hb7; have HG := Kp.mk (HG.out.no f7); have hv := hv.no f7; have m2 := Kd.C_below m2 f7.below; have F := F.no f7)
              | (go_at_call 13; go_must (refine (CR.out _).mono ?_); rintro e w8 ⟨rfl, f8⟩; have HG := Kp.mk (HG.out.no f8); have hv := hv.no f8; have m2 := Kd.C_below m2 f8.below; have F := F.no f8)
              | (go_at_call 14; go_must (refine (CR2.out _).mono ?_); rintro e w9 ⟨rfl, d9⟩; have f9 := Fr.drawn0 d9; have HG := Kp.mk (HG.out.no f9); have hv := hv.no f9; have m2 := Kd.C_below m2 f9.below; have F := F.no f9)
              | (go_at_call 15; go_must (refine (CT.out _ _ _ _ _ hv m2 m1).mono ?_); rintro e wa ⟨rfl, da⟩; have fa := Fr.drawn0 da; have HG := Kp.mk (HG.out.no fa); have F := F.no fa)
              | (go_at_call 16; go_must (refine (CW.out _ HG.out).mono ?_); rintro e wb ⟨rfl, fb⟩; have F := F.no fb)
              | (go_at_call 17; go_must (refine (CW2.out _).mono ?_); rintro e wc ⟨rfl, hbc⟩; have F := F.no (Fr.of_below hbc)))
            go_ret
            exact ⟨by simp, F⟩
      · have hnz : (30 : Int) < (xs.length : Int) := by omega
        go_enter Tryd.func3, Tryd.ntmps3
        go_wp2_with (first | (go_at_call 6; go_must (refine (awake_any _ HG.out).mono ?_); rintro e w1 ⟨rfl, F⟩; have HG := Kp.mk (HG.out.no F); have hX := hX.no F))
        go_ret
        exact ⟨rfl, F⟩
    · have hbz : (500 : Int) < (b.size : Int) := by omega
      go_enter Tryd.func3, Tryd.ntmps3
      go_wp2_with (first | (go_at_call 6; go_must (refine (awake_any _ HG.out).mono ?_); rintro e w1 ⟨rfl, F⟩; have HG := Kp.mk (HG.out.no F); have hX := hX.no F))
      go_ret
      exact ⟨rfl, F⟩
  · have haz : (500 : Int) < (a.size : Int) := by omega
    go_enter Tryd.func3, Tryd.ntmps3
    go_wp2_with (first | (go_at_call 6; go_must (refine (awake_any _ HG.out).mono ?_); rintro e w1 ⟨rfl, F⟩; have HG := Kp.mk (HG.out.no F); have hX := hX.no F))
    go_ret
    exact ⟨rfl, F⟩
end Go.Proofs.YtenlokbfjajbbaaDoor.Pa
