/- name.Split, Join, Parent, Within walked. Conditions: sizes are bounded, the library's variable is set, as written out. -/
import Derived.Test.YtenlokbfjajbbaaDoorPaSplit
import Derived.Deep.QuietTactic
import Derived.BigQuiet
set_option linter.unusedSimpArgs false
set_option linter.unusedVariables false
namespace Go.Proofs.YtenlokbfjajbbaaDoor.Pa
open Go Go.RowKit Go.Proofs.YtenlokbfjajbbaaDoorW.PrintWords Go.Proofs.YtenlokbfjajbbaaDoor.Ev Go.Proofs.YtenlokbfjajbbaaDoor.Nd

theorem cut_prefix (s : ByteArray) : (∃ r, s.data.toList = 47 :: r ∧ Lib.hasPrefix s.data.toList [47] = true ∧ Lib.trimPrefix s.data.toList [47] = r) ∨ (s.data.toList.head? ≠ some 47 ∧ Lib.hasPrefix s.data.toList [47] = false ∧ Lib.trimPrefix s.data.toList [47] = s.data.toList) := by
  cases h : s.data.toList with
  | nil => right; refine ⟨by simp, rfl, rfl⟩
  | cons c r =>
    by_cases hc : c = 47
    · subst hc
      left
      exact ⟨r, rfl, by simp [Lib.hasPrefix, List.isPrefixOf], by simp [Lib.trimPrefix, Lib.hasPrefix, List.isPrefixOf]⟩
    · right
      have h1 : (47 == c) = false := beq_eq_false_iff_ne.2 (fun e => hc e.symm)
      have h2 : Lib.hasPrefix (c :: r) [47] = false := by simp [Lib.hasPrefix, List.isPrefixOf, h1]
      refine ⟨by simpa using hc, h2, by simp [Lib.trimPrefix, h2]⟩

set_option maxHeartbeats 2000000 in
theorem split_any (s : ByteArray) (W : World) (hg : Glob W) (hs : s.size < 4294967281) :
    Calls Tryd.prog 7 #[.string s] W fun e w' => Tell W (splitP s).1 (splitP s).2 e w' := by
  obtain ⟨R, hR⟩ : ∃ R, splitP s = R := ⟨_, rfl⟩
  rw [hR]
  have HR := Kp.mk hR
  have HG := Kp.mk hg
  clear hR hg
  by_cases h0 : s.data.toList = [47]
  · have hr : R = ([], 0) := by rw [← HR.out, splitP, if_pos h0]
    subst hr
    have he : (s.toList == [47]) = true := by rw [Lib.toList_data, h0]; rfl
    have he2 : s.toList = [47] := by rw [Lib.toList_data, h0]
    clear h0
    go_enter Tryd.func7, Tryd.ntmps7
    go_wp2_with fail
    go_ret2
    exact ⟨_, rfl, StrS.nil _, Fr.refl _ _⟩
  · have he : (s.toList == [47]) = false := by rw [Lib.toList_data]; simpa using h0
    have he2 : ¬ s.toList = [47] := by rw [Lib.toList_data]; exact h0
    obtain ⟨ok, hok⟩ : ∃ ok, Lib.hasPrefix s.data.toList [47] = ok := ⟨_, rfl⟩
    obtain ⟨r, hr⟩ : ∃ r, Lib.trimPrefix s.data.toList [47] = r := ⟨_, rfl⟩
    have hcp := cut_prefix s
    rw [hok, hr] at hcp
    have CC : Kp (∀ w, Calls Tryd.prog 18 #[.string s, .string ⟨#[47]⟩] w fun e w' => e = .returned (.tuple #[.string (ba r), .bool ok]) ∧ w' = w) := ⟨fun w => by
      have h := Tryd.strings_CutPrefix s ⟨#[47]⟩ w
      have e1 : (⟨#[47]⟩ : ByteArray).data.toList = [47] := rfl
      rw [e1, hok, hr] at h
      exact h⟩
    have hrs : (ba r).size ≤ s.size := by
      have h1 : (ba r).size = r.length := by rw [Lib.size_eq]
      have h2 : s.size = s.data.toList.length := Lib.size_eq s
      rcases hcp with ⟨r', h3, _, rfl⟩ | ⟨_, _, rfl⟩
      · rw [h1, h2, h3]; simp
      · exact Nat.le_refl _
    have CL : Kp (∀ w, Glob w → Calls Tryd.prog 19 #[.string (ba r), .string ⟨#[47]⟩] w fun e w' => ∃ v, e = .returned v ∧ StrS w' v ((cutL r).map ba) ∧ Fr No w w') := ⟨fun w g => lsplit_any (ba r) w g (by omega)⟩
    have hsz : ∀ x ∈ (cutL r).map ba, x.size < 4294967281 := fun x hx => by
      obtain ⟨l, hl, rfl⟩ := List.mem_map.1 hx
      have := cut_sizes r l hl
      have h1 : (ba r).size = r.length := by rw [Lib.size_eq]
      have h2 : (ba l).size = l.length := by rw [Lib.size_eq]
      omega
    obtain ⟨xs, hxs⟩ : ∃ xs, (cutL r).map ba = xs := ⟨_, rfl⟩
    obtain ⟨an, han⟩ : ∃ an, xs.any (fun x => !(nameB x)) = an := ⟨_, rfl⟩
    rw [hxs] at CL hsz
    have CA : Kp (∀ w v, StrS w v xs → Calls Tryd.prog 21 #[v, .func (.func 20) #[] #[]] w fun e w' => e = .returned (.bool an) ∧ Fr No w w') := ⟨fun w v h => by
      have h := contains_str (fun x => !(nameB x)) 20 (fun _ _ => by go_simp) v xs w h (fun W x hx f => wrong_any x W (hsz x hx))
      rw [han] at h
      exact h⟩
    have hres : R = if ok = true ∧ xs.length ≤ 8 ∧ an = false then (xs, 0) else ([], 14) := by
      rw [← HR.out, splitP, if_neg h0]
      have hall : an = false ↔ xs.all nameB = true := by
        rw [← han, List.any_eq_false, List.all_eq_true]
        exact ⟨fun h x hx => by simpa using h x hx, fun h x hx => by simpa using h x hx⟩
      rcases hcp with ⟨r', h3, rfl, rfl⟩ | ⟨h3, rfl, rfl⟩
      · have ht : s.data.toList.tail = r := by rw [h3]; rfl
        rw [ht, hxs]
        have hl : xs.length = (cutL r).length := by rw [← hxs]; simp
        rw [← hl, h3]
        simp only [List.head?_cons, true_and, hall]
      · rw [if_neg (fun h => h3 h.1), if_neg (fun h => by cases h.1)]
    have HX := Kp.mk hres
    clear HR hcp hok hr hrs hsz hxs han h0 hres
    have hsh : xs.length ≤ 4611686018427387904 ∨ 8 < xs.length := by omega
    cases ok with
    | false =>
      have hR : R = ([], 14) := by rw [HX.out]; rfl
      subst hR
      clear hsh
      go_enter Tryd.func7, Tryd.ntmps7
      go_wp2_with (first
        | (go_at_call 18; refine (CC.out _).mono ?_; rintro e w1 ⟨rfl, rfl⟩)
        | (go_at_call 19; refine (CL.out _ HG.out).mono ?_; rintro e w2 ⟨v, rfl, hv, f2⟩))
      go_ret2
      exact ⟨_, rfl, StrS.nil _, f2⟩
    | true =>
      by_cases h8 : xs.length ≤ 8
      · have h8z : ¬ (8 : Int) < (xs.length : Int) := by omega
        cases an with
        | true =>
          have hR : R = ([], 14) := by rw [HX.out, if_neg (fun h => by cases h.2.2)]
          subst hR
          clear hsh
          go_enter Tryd.func7, Tryd.ntmps7
          go_wp2_with (first
            | (go_at_call 18; refine (CC.out _).mono ?_; rintro e w1 ⟨rfl, rfl⟩)
            | (go_at_call 19; refine (CL.out _ HG.out).mono ?_; rintro e w2 ⟨v, rfl, hv, f2⟩; obtain ⟨A, c, rfl, k1, k2, k3⟩ := hv.out; clear k3)
            | (go_at_call 21; refine (CA.out _ _ hv).mono ?_; rintro e w3 ⟨rfl, f3⟩))
          go_ret2
          exact ⟨_, rfl, StrS.nil _, f2.no f3⟩
        | false =>
          have hR : R = (xs, 0) := by rw [HX.out, if_pos ⟨rfl, h8, rfl⟩]
          subst hR
          clear hsh
          go_enter Tryd.func7, Tryd.ntmps7
          go_wp2_with (first
            | (go_at_call 18; refine (CC.out _).mono ?_; rintro e w1 ⟨rfl, rfl⟩)
            | (go_at_call 19; refine (CL.out _ HG.out).mono ?_; rintro e w2 ⟨v, rfl, hv, f2⟩; obtain ⟨A, c, rfl, k1, k2, k3⟩ := hv.out; clear k3)
            | (go_at_call 21; refine (CA.out _ _ hv).mono ?_; rintro e w3 ⟨rfl, f3⟩))
          go_ret2
          exact ⟨_, rfl, hv.no f3, f2.no f3⟩
      · have h8z : (8 : Int) < (xs.length : Int) := by omega
        have hR : R = ([], 14) := by rw [HX.out, if_neg (fun h => h8 h.2.1)]
        subst hR
        clear hsh
        go_enter Tryd.func7, Tryd.ntmps7
        go_wp2_with (first
          | (go_at_call 18; refine (CC.out _).mono ?_; rintro e w1 ⟨rfl, rfl⟩)
          | (go_at_call 19; refine (CL.out _ HG.out).mono ?_; rintro e w2 ⟨v, rfl, hv, f2⟩; obtain ⟨A, c, rfl, k1, k2, k3⟩ := hv.out; clear k3))
        go_ret2
        exact ⟨_, rfl, StrS.nil _, f2⟩

/-- slices.Equal at texts: whole. -/
theorem equal_strs (u v : Value) (xs ys : List ByteArray) (w : World) (hu : StrS w u xs) (hv : StrS w v ys) :
    Calls Tryd.prog 23 #[u, v] w fun e w' => e = .returned (.bool (decide (xs = ys))) ∧ Fr No w w' := by
  obtain ⟨A, c, rfl, h1, h2, h3⟩ := hu.out
  obtain ⟨B, d, rfl, k1, k2, k3⟩ := hv.out
  by_cases hl : xs.length = ys.length
  · by_cases h0 : xs.length = 0
    · have hx := List.eq_nil_of_length_eq_zero h0
      have hy := List.eq_nil_of_length_eq_zero (hl ▸ h0)
      subst hx hy
      refine (Tryd.slices_Equal_string_empty A B c 0 d w (by omega)).mono ?_
      rintro e w' ⟨rfl, rfl⟩
      exact ⟨rfl, Fr.refl _ _⟩
    · obtain ⟨b1, o1, rfl, _, hc1⟩ := h3 (by omega)
      obtain ⟨b2, o2, rfl, _, hc2⟩ := k3 (by omega)
      refine (Tryd.slices_Equal_string b1 o1 xs.length c b2 o2 ys.length d xs ys w (Nat.le_refl _) (Nat.le_refl _) (by omega) (by omega) hc1 hc2).mono ?_
      rintro e w' ⟨rfl, q, rfl⟩
      rw [List.take_length, List.take_length]
      exact ⟨rfl, (Fr.refl _ _).drewN q⟩
  · refine (Tryd.slices_Equal_string_lens A B xs.length c ys.length d w hl).mono ?_
    rintro e w' ⟨rfl, rfl⟩
    have : xs ≠ ys := fun h => hl (by rw [h])
    exact ⟨by simp [this], Fr.refl _ _⟩

/-- strings.Join at the slash. -/
theorem ljoin_any (v : Value) (xs : List ByteArray) (w : World) (hv : StrS w v xs) (hn : xs.length ≤ 140737488355328) (hl : (glue (xs.map (·.data.toList))).length ≤ 140737488355328) :
    Calls Tryd.prog 22 #[v, .string ⟨#[47]⟩] w fun e w' => e = .returned (.string (ba (glue (xs.map (·.data.toList))))) ∧ Fr No w w' := by
  obtain ⟨A, c, rfl, h1, h2, h3⟩ := hv.out
  by_cases h0 : xs.length = 0
  · have hx := List.eq_nil_of_length_eq_zero h0
    subst hx
    refine (Tryd.strings_Join_none A c ⟨#[47]⟩ w).mono ?_
    rintro e w' ⟨rfl, rfl⟩
    exact ⟨rfl, Fr.refl _ _⟩
  · obtain ⟨b, o, rfl, hb, hc⟩ := h3 (by omega)
    have e1 : (⟨#[47]⟩ : ByteArray).data.toList = [47] := rfl
    have hj : Lib.join (xs.map (·.data.toList)) (⟨#[47]⟩ : ByteArray).data.toList = glue (xs.map (·.data.toList)) := glue_join _
    have h := Tryd.strings_Join b o c xs ⟨#[47]⟩ w (fun j x hx => by
      obtain ⟨hj, rfl⟩ := List.getElem?_eq_some_iff.1 hx
      have := hc j hj
      rw [this, List.getD_eq_getElem?_getD, List.getElem?_eq_getElem hj]
      rfl) hb hn h1 (by rw [hj]; exact hl)
    rw [hj] at h
    refine h.mono ?_
    rintro e w' ⟨rfl, hb'⟩
    exact ⟨rfl, Fr.of_below hb'⟩

set_option maxHeartbeats 2000000 in
theorem join_any (v : Value) (xs : List ByteArray) (W : World) (hg : Glob W) (hv : StrS W v xs) (hl : (glue (xs.map (·.data.toList))).length < 4294967280) (hn : xs.length ≤ 4294967280) :
    Calls Tryd.prog 9 #[v] W fun e w' => e = .returned (.tuple #[.string (joinP xs).1, .int .i64 (joinP xs).2]) ∧ Fr No W w' := by
  obtain ⟨R, hR⟩ : ∃ R, joinP xs = R := ⟨_, rfl⟩
  have hp := join_prog xs
  rw [hR] at hp ⊢
  clear hR
  have hsz : (ba (pathL xs)).size < 4294967281 := by
    have : (ba (pathL xs)).size = (pathL xs).length := by rw [Lib.size_eq]
    rw [this, pathL, List.length_cons]; omega
  have hcat : (⟨#[47]⟩ : ByteArray) ++ ba (glue (xs.map (·.data.toList))) = ba (pathL xs) := by
    rw [← ba_data ((⟨#[47]⟩ : ByteArray) ++ ba (glue (xs.map (·.data.toList))))]
    congr 1
  have CJ : Kp (∀ w, StrS w v xs → Calls Tryd.prog 22 #[v, .string ⟨#[47]⟩] w fun e w' => e = .returned (.string (ba (glue (xs.map (·.data.toList))))) ∧ Fr No w w') := ⟨fun w h => ljoin_any v xs w h (by omega) (by omega)⟩
  obtain ⟨g, hgl⟩ : ∃ g, g = ba (glue (xs.map (·.data.toList))) := ⟨_, rfl⟩
  have hgz : g.size < 4294967280 := by
    have : g.size = (glue (xs.map (·.data.toList))).length := by rw [hgl, Lib.size_eq]
    omega
  rw [← hgl] at CJ hcat
  obtain ⟨s, hs⟩ : ∃ s, s = ba (pathL xs) := ⟨_, rfl⟩
  rw [← hs] at hp hsz hcat
  have hsc := split_code s
  have CS : Kp (∀ w, Glob w → Calls Tryd.prog 7 #[.string s] w fun e w' => Tell w (splitP s).1 (splitP s).2 e w') := ⟨fun w h => split_any s w h hsz⟩
  obtain ⟨ys, c, hyc⟩ : ∃ ys c, splitP s = (ys, c) := ⟨_, _, rfl⟩
  rw [hyc] at CS hp hsc
  simp only at CS hp hsc
  have CE : Kp (∀ u w, StrS w u ys → StrS w v xs → Calls Tryd.prog 23 #[u, v] w fun e w' => e = .returned (.bool (decide (ys = xs))) ∧ Fr No w w') := ⟨fun u w h1 h2 => equal_strs u v ys xs w h1 h2⟩
  have HP := Kp.mk hp
  have HV := Kp.mk hv
  have HG := Kp.mk hg
  have HC := Kp.mk hcat
  have hszK := Kp.mk hsz
  clear hp hv hg hgl hs hyc hsz hl hn hcat
  rcases hsc with h0 | h0
  · subst h0
    by_cases he : ys = xs
    · have hR : R = (s, 0) := by rw [HP.out, if_pos ⟨rfl, he⟩]
      subst hR
      have hd : decide (ys = xs) = true := decide_eq_true he
      go_enter Tryd.func9, Tryd.ntmps9
      go_wp2_with (first
        | (go_at_call 22; go_must (refine (CJ.out _ HV.out).mono ?_); rintro e w1 ⟨rfl, f1⟩)
        | (go_at_call 7; go_must (rw [HC.out]; refine (CS.out _ (HG.out.no f1)).mono ?_); rintro e w2 ⟨v2, rfl, hv2, f2⟩)
        | (go_at_call 23; go_must (refine (CE.out _ _ hv2 (HV.out.no (f1.no f2))).mono ?_); rintro e w3 ⟨rfl, f3⟩; rw [hd]))
      go_ret2
      exact ⟨rfl, (f1.no f2).no f3⟩
    · have hR : R = (⟨#[]⟩, 14) := by rw [HP.out, if_neg (fun h => he h.2)]
      subst hR
      have hd : decide (ys = xs) = false := decide_eq_false he
      go_enter Tryd.func9, Tryd.ntmps9
      go_wp2_with (first
        | (go_at_call 22; go_must (refine (CJ.out _ HV.out).mono ?_); rintro e w1 ⟨rfl, f1⟩)
        | (go_at_call 7; go_must (rw [HC.out]; refine (CS.out _ (HG.out.no f1)).mono ?_); rintro e w2 ⟨v2, rfl, hv2, f2⟩)
        | (go_at_call 23; go_must (refine (CE.out _ _ hv2 (HV.out.no (f1.no f2))).mono ?_); rintro e w3 ⟨rfl, f3⟩; rw [hd]))
      go_ret2
      exact ⟨rfl, (f1.no f2).no f3⟩
  · obtain ⟨rfl, rfl⟩ := Prod.mk.inj h0
    have hR : R = (⟨#[]⟩, 14) := by rw [HP.out, if_neg (fun h => by cases h.1)]
    subst hR
    go_enter Tryd.func9, Tryd.ntmps9
    go_wp2_with (first
      | (go_at_call 22; go_must (refine (CJ.out _ HV.out).mono ?_); rintro e w1 ⟨rfl, f1⟩)
      | (go_at_call 7; go_must (rw [HC.out]; refine (CS.out _ (HG.out.no f1)).mono ?_); rintro e w2 ⟨v2, rfl, hv2, f2⟩))
    go_ret2
    exact ⟨rfl, f1.no f2⟩
end Go.Proofs.YtenlokbfjajbbaaDoor.Pa
