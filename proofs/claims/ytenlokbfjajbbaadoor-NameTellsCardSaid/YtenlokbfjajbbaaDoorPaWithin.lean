/- name.Parent and name.Within walked. Conditions: sizes are bounded, the library's variable is set, as written out. -/
import Derived.Test.YtenlokbfjajbbaaDoorPaJoin
set_option linter.unusedSimpArgs false
set_option linter.unusedVariables false
namespace Go.Proofs.YtenlokbfjajbbaaDoor.Pa
open Go Go.RowKit Go.Proofs.YtenlokbfjajbbaaDoorW.PrintWords Go.Proofs.YtenlokbfjajbbaaDoor.Ev Go.Proofs.YtenlokbfjajbbaaDoor.Nd

theorem glue_len {m : Nat} : ∀ {xs : List (List UInt8)}, (∀ x ∈ xs, x.length ≤ m) → (glue xs).length ≤ xs.length * (m + 1)
  | [], _ => by simp [glue]
  | [x], h => by have := h x (by simp); simp [glue]; omega
  | x :: y :: r, h => by
    have h1 := h x (by simp)
    have ih := glue_len (xs := y :: r) (fun z hz => h z (List.mem_cons_of_mem _ hz))
    rw [glue_cons (by simp), List.length_append, List.length_cons, List.length_cons (a := x), Nat.succ_mul]
    omega
theorem split_names (s : ByteArray) : (splitP s).1.length ≤ 8 ∧ ∀ x ∈ (splitP s).1, x.data.toList.length ≤ 16 := by
  rcases split_code s with h | h
  · obtain ⟨h1, h2, _⟩ := (split_ok s _).1 (split_zero h)
    exact ⟨h1, fun x hx => (name_parts (List.all_eq_true.1 h2 x hx)).2.1⟩
  · rw [h]; simp
theorem glue_names {xs : List ByteArray} (h1 : xs.length ≤ 8) (h2 : ∀ x ∈ xs, x.data.toList.length ≤ 16) : (glue (xs.map (·.data.toList))).length ≤ 136 := by
  have := glue_len (m := 16) (xs := xs.map (·.data.toList)) (fun z hz => by
    obtain ⟨x, hx, rfl⟩ := List.mem_map.1 hz
    exact h2 x hx)
  rw [List.length_map] at this
  have h3 : xs.length * 17 ≤ 8 * 17 := Nat.mul_le_mul_right _ h1
  omega
theorem StrS.take {w : World} {A : Option Addr} {n c : Nat} {xs : List ByteArray} (h : StrS w (.slice A xs.length c) xs) (hn : n ≤ xs.length) : StrS w (.slice A n c) (xs.take n) := by
  obtain ⟨A', c', he, h1, h2, h3⟩ := h.out
  cases he
  have hl : (xs.take n).length = n := by rw [List.length_take]; omega
  refine ⟨⟨A, c, by rw [hl], by rw [hl]; omega, h2, fun hp => ?_⟩⟩
  rw [hl] at hp
  obtain ⟨b, o, rfl, hb, hc⟩ := h3 (by omega)
  refine ⟨b, o, rfl, hb, fun j hj => ?_⟩
  rw [hl] at hj
  rw [hc j (by omega)]
  simp [List.getD_eq_getElem?_getD, List.getElem?_take, hj]

set_option maxHeartbeats 2000000 in
theorem parent_any (s : ByteArray) (W : World) (hg : Glob W) (hs : s.size < 4294967281) :
    Calls Tryd.prog 11 #[.string s] W fun e w' => e = .returned (.tuple #[.string (parentP s).1, .string (parentP s).2.1, .int .i64 (parentP s).2.2]) ∧ Fr No W w' := by
  obtain ⟨R, hR⟩ : ∃ R, parentP s = R := ⟨_, rfl⟩
  rw [hR]
  unfold parentP at hR
  have CS : Kp (∀ w, Glob w → Calls Tryd.prog 7 #[.string s] w fun e w' => Tell w (splitP s).1 (splitP s).2 e w') := ⟨fun w h => split_any s w h hs⟩
  have hsc := split_code s
  obtain ⟨hn1, hn2⟩ := split_names s
  obtain ⟨xs, c, hyc⟩ : ∃ xs c, splitP s = (xs, c) := ⟨_, _, rfl⟩
  rw [hyc] at CS hR hsc hn1 hn2
  simp only at CS hR hsc hn1 hn2
  have HG := Kp.mk hg
  clear hyc hg
  rcases hsc with h0 | h0
  · subst h0
    by_cases hx : xs = []
    · subst hx
      have hr : R = (⟨#[]⟩, ⟨#[]⟩, 17) := by rw [← hR]; rfl
      subst hr
      clear hR hn1 hn2
      go_enter Tryd.func11, Tryd.ntmps11
      go_wp2_with (go_at_call 7; go_must (refine (CS.out _ HG.out).mono ?_); rintro e w1 ⟨v, rfl, hv, f1⟩; obtain ⟨A, d, rfl, k1, k2, k3⟩ := hv.out; clear k3)
      go_ret3
      exact ⟨rfl, f1⟩
    · obtain ⟨k, hk⟩ : ∃ k, xs.length = k + 1 := ⟨xs.length - 1, by have := List.length_pos_iff.2 hx; omega⟩
      have hr : R = ((joinP (xs.take k)).1, xs.getD k ByteArray.empty, (joinP (xs.take k)).2) := by
        rw [← hR, if_neg (by simp), if_neg hx]
        have h1 : xs.dropLast = xs.take k := by rw [List.dropLast_eq_take, hk]; rfl
        have h2 : xs.getLastD ByteArray.empty = xs.getD k ByteArray.empty := by
          rw [List.getLastD_eq_getLast?, List.getLast?_eq_getElem?, hk, List.getD_eq_getElem?_getD]; rfl
        rw [h1, h2]
      clear hR
      have hl2 : (xs.take k).length = k := by rw [List.length_take]; omega
      have CJ : Kp (∀ w A d, Glob w → StrS w (.slice A k d) (xs.take k) → Calls Tryd.prog 9 #[.slice A k d] w fun e w' => e = .returned (.tuple #[.string (joinP (xs.take k)).1, .int .i64 (joinP (xs.take k)).2]) ∧ Fr No w w') := ⟨fun w A d g h =>
        join_any _ _ w g h (by have := glue_names (xs := xs.take k) (by omega) (fun x hx => hn2 x (List.mem_of_mem_take hx)); omega) (by omega)⟩
      obtain ⟨J1, J2, hJ⟩ : ∃ J1 J2, joinP (xs.take k) = (J1, J2) := ⟨_, _, rfl⟩
      obtain ⟨y, hy⟩ : ∃ y, xs.getD k ByteArray.empty = y := ⟨_, rfl⟩
      rw [hJ, hy] at hr
      rw [hJ] at CJ
      have HY := Kp.mk hy
      clear hy
      subst hr
      have HN := Kp.mk hn2
      clear hn2 hx
      have hkz : (k : Int) ≤ 8 := by omega
      have HK := Kp.mk hk
      go_enter Tryd.func11, Tryd.ntmps11
      go_wp2_with (first
        | (go_at_call 7; go_must (refine (CS.out _ HG.out).mono ?_); rintro e w1 ⟨v, rfl, hv, f1⟩; obtain ⟨A, d, rfl, k1, k2, k3⟩ := hv.out; obtain ⟨b, o, rfl, hb, hc⟩ := k3 (by omega); have hvt := StrS.take (n := k) hv (by omega); have hck := hc k (by omega); rw [HY.out] at hck; rw [hk] at k1 ⊢; clear hc k3 hv)
        | (go_at_call 9; go_must (refine (CJ.out _ _ _ (HG.out.no f1) hvt).mono ?_); rintro e w2 ⟨rfl, f2⟩; have hck := Fr.cell hck f2 (fun h => h)))
      go_quiet (fail)
      go_wp2_with fail
      go_ret3
      exact ⟨rfl, (f1.no f2).drewN _⟩
  · obtain ⟨rfl, rfl⟩ := Prod.mk.inj h0
    have hr : R = (⟨#[]⟩, ⟨#[]⟩, 14) := by rw [← hR]; rfl
    subst hr
    clear hR hn1 hn2
    go_enter Tryd.func11, Tryd.ntmps11
    go_wp2_with (go_at_call 7; go_must (refine (CS.out _ HG.out).mono ?_); rintro e w1 ⟨v, rfl, hv, f1⟩; obtain ⟨A, d, rfl, k1, k2, k3⟩ := hv.out; clear k3)
    go_ret3
    exact ⟨rfl, f1⟩

set_option maxHeartbeats 2000000 in
theorem within_any (a b : ByteArray) (W : World) (hg : Glob W) (ha : a.size < 4294967281) (hb : b.size < 4294967281) :
    Calls Tryd.prog 16 #[.string a, .string b] W fun e w' => e = .returned (.bool (withinB a b)) ∧ Fr No W w' := by
  obtain ⟨R, hR⟩ : ∃ R, withinB a b = R := ⟨_, rfl⟩
  rw [hR]
  unfold withinB at hR
  have CA : Kp (∀ w, Glob w → Calls Tryd.prog 7 #[.string a] w fun e w' => Tell w (splitP a).1 (splitP a).2 e w') := ⟨fun w h => split_any a w h ha⟩
  have CB : Kp (∀ w, Glob w → Calls Tryd.prog 7 #[.string b] w fun e w' => Tell w (splitP b).1 (splitP b).2 e w') := ⟨fun w h => split_any b w h hb⟩
  have hca := split_code a
  have hcb := split_code b
  obtain ⟨hn1, _⟩ := split_names a
  obtain ⟨hn2, _⟩ := split_names b
  obtain ⟨xs, c, hxc⟩ : ∃ xs c, splitP a = (xs, c) := ⟨_, _, rfl⟩
  obtain ⟨ys, d, hyc⟩ : ∃ ys d, splitP b = (ys, d) := ⟨_, _, rfl⟩
  rw [hxc] at CA hR hca hn1
  rw [hyc] at CB hR hcb hn2
  simp only at CA CB hR hca hcb hn1 hn2
  have HG := Kp.mk hg
  clear hxc hyc hg ha hb
  rcases hca with h0 | h0
  · subst h0
    rcases hcb with h0 | h0
    · subst h0
      by_cases hl : xs.length ≤ ys.length
      · have hlz : (xs.length : Int) ≤ (ys.length : Int) := by omega
        have CE : Kp (∀ u v w, StrS w u xs → StrS w v (ys.take xs.length) → Calls Tryd.prog 23 #[u, v] w fun e w' => e = .returned (.bool R) ∧ Fr No w w') := ⟨fun u v w h1 h2 => by
          have h := equal_strs u v xs (ys.take xs.length) w h1 h2
          have e : decide (xs = ys.take xs.length) = R := by
            rw [← hR]
            simp only [decide_true, Bool.true_and]
            rw [Bool.eq_iff_iff, decide_eq_true_eq, decide_eq_true_eq, List.prefix_iff_eq_take]
          rw [e] at h
          exact h⟩
        clear hR
        go_enter Tryd.func16, Tryd.ntmps16
        go_wp2_with (first
          | (go_at_call 7; refine (CA.out _ HG.out).mono ?_; rintro e w1 ⟨u, rfl, hu, f1⟩; obtain ⟨A, c1, rfl, k1, k2, k3⟩ := hu.out; clear k3 CA)
          | (go_at_call 7; go_must (refine (CB.out _ (HG.out.no f1)).mono ?_); rintro e w2 ⟨v, rfl, hv, f2⟩; have hu := hu.no f2; obtain ⟨B, c2, rfl, l1, l2, l3⟩ := hv.out; have hvt := StrS.take (n := xs.length) hv hl; have H3 := Kp.mk l3; clear l3)
          | (go_at_call 23; go_must (refine (CE.out _ _ _ hu hvt).mono ?_); rintro e w3 ⟨rfl, f3⟩))
        go_ret
        exact ⟨rfl, (f1.no f2).no f3⟩
      · have hlz : ¬ (xs.length : Int) ≤ (ys.length : Int) := by omega
        have hr : R = false := by
          rw [← hR, Bool.eq_false_iff]
          intro h
          simp only [Bool.and_eq_true, decide_eq_true_eq] at h
          exact hl h.2.length_le
        subst hr
        clear hR
        go_enter Tryd.func16, Tryd.ntmps16
        go_wp2_with (first
          | (go_at_call 7; refine (CA.out _ HG.out).mono ?_; rintro e w1 ⟨u, rfl, hu, f1⟩; obtain ⟨A, c1, rfl, k1, k2, k3⟩ := hu.out; clear k3 CA)
          | (go_at_call 7; go_must (refine (CB.out _ (HG.out.no f1)).mono ?_); rintro e w2 ⟨v, rfl, hv, f2⟩; obtain ⟨B, c2, rfl, l1, l2, l3⟩ := hv.out; clear l3))
        go_ret
        exact ⟨rfl, f1.no f2⟩
    · obtain ⟨rfl, rfl⟩ := Prod.mk.inj h0
      have hr : R = false := by rw [← hR]; rfl
      subst hr
      clear hR
      go_enter Tryd.func16, Tryd.ntmps16
      go_wp2_with (first
        | (go_at_call 7; refine (CA.out _ HG.out).mono ?_; rintro e w1 ⟨u, rfl, hu, f1⟩; clear CA)
        | (go_at_call 7; go_must (refine (CB.out _ (HG.out.no f1)).mono ?_); rintro e w2 ⟨v, rfl, hv, f2⟩))
      go_ret
      exact ⟨rfl, f1.no f2⟩
  · obtain ⟨rfl, rfl⟩ := Prod.mk.inj h0
    have hr : R = false := by rw [← hR]; rfl
    subst hr
    clear hR
    go_enter Tryd.func16, Tryd.ntmps16
    go_wp2_with (first
      | (go_at_call 7; refine (CA.out _ HG.out).mono ?_; rintro e w1 ⟨u, rfl, hu, f1⟩; clear CA)
      | (go_at_call 7; go_must (refine (CB.out _ (HG.out.no f1)).mono ?_); rintro e w2 ⟨v, rfl, hv, f2⟩))
    go_ret
    exact ⟨rfl, f1.no f2⟩
end Go.Proofs.YtenlokbfjajbbaaDoor.Pa
