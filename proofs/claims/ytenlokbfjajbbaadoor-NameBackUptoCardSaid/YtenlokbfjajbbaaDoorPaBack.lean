/- The law NameBack: it says yes. Conditions: the texts' sum is bounded, the library's variable is set. -/
import Derived.Test.YtenlokbfjajbbaaDoorPaAwake
set_option linter.unusedSimpArgs false
set_option linter.unusedVariables false
namespace Go.Proofs.YtenlokbfjajbbaaDoor.Pa
open Go Go.RowKit Go.Proofs.YtenlokbfjajbbaaDoorW.PrintWords Go.Proofs.YtenlokbfjajbbaaDoor.Ev Go.Proofs.YtenlokbfjajbbaaDoor.Nd Go.Proofs.YtenlokbfjajbbaaDoor.Reg

theorem app_ba (x y : List UInt8) : ba x ++ ba y = ba (x ++ y) := by
  rw [← ba_data (ba x ++ ba y)]
  congr 1
theorem sp_slash : splitP ⟨#[47]⟩ = ([], 0) := by decide +kernel
theorem join_split {a : ByteArray} (h : (splitP a).2 = 0) : joinP (splitP a).1 = (a, 0) := by
  obtain ⟨h1, h2, h3⟩ := (split_ok a _).1 (split_zero h)
  rw [joinP, if_pos ⟨h1, h2⟩, ← h3]
theorem within_root {a : ByteArray} (h : (splitP a).2 = 0) : withinB ⟨#[47]⟩ a = true :=
  (within_iff _ _).2 ⟨by rw [sp_slash], h, by rw [sp_slash]; exact List.nil_prefix⟩
theorem parent_facts {a : ByteArray} (h : (splitP a).2 = 0) (hn : (splitP a).1 ≠ []) :
    ∃ p n, parentP a = (p, n, 0) ∧ p.size ≤ 500 ∧ n.size ≤ 16 ∧ withinB p a = true ∧ withinB a p = false ∧ nameB n = true ∧ ((p.toList = [47] ∧ (⟨#[47]⟩ : ByteArray) ++ n = a) ∨ (¬ p.toList = [47] ∧ p ++ ⟨#[47]⟩ ++ n = a)) := by
  obtain ⟨h1, h2, h3⟩ := (split_ok a _).1 (split_zero h)
  obtain ⟨hs1, hs2⟩ := split_names a
  obtain ⟨xs, hxs⟩ : ∃ xs, (splitP a).1 = xs := ⟨_, rfl⟩
  have hz := split_zero h
  rw [hxs] at h1 h2 h3 hn hs1 hs2 hz
  have hdl : xs.dropLast ++ [xs.getLast hn] = xs := List.dropLast_concat_getLast hn
  obtain ⟨n, hnn⟩ : ∃ n, xs.getLast hn = n := ⟨_, rfl⟩
  have hgl : xs.getLastD ByteArray.empty = n := by rw [List.getLastD_eq_getLast?, List.getLast?_eq_some_getLast hn, hnn]; rfl
  rw [hnn] at hdl
  have hnm : n ∈ xs := by rw [← hdl]; simp
  have hnb : nameB n = true := List.all_eq_true.1 h2 n hnm
  have hd2 : xs.dropLast.all nameB = true := List.all_eq_true.2 (fun x hx => List.all_eq_true.1 h2 x (List.dropLast_subset xs hx))
  have hd1 : xs.dropLast.length ≤ 8 := by rw [List.length_dropLast]; omega
  have hp : joinP xs.dropLast = (ba (pathL xs.dropLast), 0) := by rw [joinP, if_pos ⟨hd1, hd2⟩]
  have hsp : splitP (ba (pathL xs.dropLast)) = (xs.dropLast, 0) := (split_ok _ _).2 ⟨hd1, hd2, rfl⟩
  have hg := glue_names hd1 (fun x hx => hs2 x (List.dropLast_subset xs hx))
  refine ⟨ba (pathL xs.dropLast), n, ?_, ?_, ?_, ?_, ?_, hnb, ?_⟩
  · rw [parentP, hz, if_neg (by simp), if_neg hn]
    simp only [hp, hgl]
  · have : (ba (pathL xs.dropLast)).size = (pathL xs.dropLast).length := by rw [Lib.size_eq]
    rw [this, pathL, List.length_cons]; omega
  · have := (name_parts hnb).2.1
    rw [Lib.size_eq]; exact this
  · exact (within_iff _ _).2 ⟨by rw [hsp], h, by rw [hsp, hxs]; exact List.dropLast_prefix xs⟩
  · rw [Bool.eq_false_iff]
    intro hw
    have := ((within_iff _ _).1 hw).2.2
    rw [hsp, hxs] at this
    have := this.length_le
    have h0 := List.length_pos_iff.2 hn
    simp only [List.length_dropLast] at this
    omega
  · have ha : a = ba (pathL xs) := by rw [← h3]
    by_cases hd : xs.dropLast = []
    · left
      refine ⟨by rw [Lib.toList_data, hd]; rfl, ?_⟩
      rw [hd, List.nil_append] at hdl
      rw [ha, ← hdl, ← ba_data n, show (⟨#[47]⟩ : ByteArray) = ba [47] from rfl, app_ba]
      rfl
    · right
      have hgn := glue_ne hd hd2
      refine ⟨by rw [Lib.toList_data]; show ¬ pathL xs.dropLast = [47]; rw [pathL]; simpa using hgn, ?_⟩
      have hm : pathL xs = pathL xs.dropLast ++ [47] ++ n.data.toList := by
        rw [pathL, pathL]
        conv => lhs; rw [← hdl]
        rw [List.map_append, glue_append (fun h => hd (List.map_eq_nil_iff.1 h)) (by simp)]
        simp [glue]
      rw [ha, hm, ← app_ba, ← app_ba]

set_option maxHeartbeats 2000000 in
theorem texts_any (u v : Value) (xs ys : List ByteArray) (W : World) (hu : StrS W u xs) (hv : StrS W v ys) :
    Calls Tryd.prog 15 #[u, v] W fun e w' => e = .returned (.bool (decide (xs = ys))) ∧ Fr No W w' := by
  obtain ⟨A, c, rfl, h1, h2, h3⟩ := hu.out
  obtain ⟨B, d, rfl, k1, k2, k3⟩ := hv.out
  by_cases hl : xs.length = ys.length
  · have H3 := Kp.mk h3
    have K3 := Kp.mk k3
    have hlz : (xs.length : Int) = (ys.length : Int) := by omega
    obtain ⟨R, hR⟩ : ∃ R, decide (xs = ys) = R := ⟨_, rfl⟩
    rw [hR]
    have HR := Kp.mk hR
    clear h3 k3 hR
    have hsz : xs.length ≤ 9223372036854775807 := by omega
    obtain ⟨n, hn⟩ : ∃ n, n = xs.length := ⟨_, rfl⟩
    rw [← hl, ← hn]
    have HN := Kp.mk hn
    have HL := Kp.mk hl
    have hsn : n ≤ 9223372036854775807 := by omega
    clear hlz hl hn h1 k1 hsz
    go_enter Tryd.func15, Tryd.ntmps15
    go_wp2_with fail
    go_loopg [5] n (fun gg s5 wr => ∃ kk : Nat, kk ≤ n ∧ n - kk ≤ gg ∧ s5 = .int .i64 kk ∧ Kp (Fr No W wr) ∧ Kp (∀ j, j < kk → xs.getD j ByteArray.empty = ys.getD j ByteArray.empty))
    case atStart => exact ⟨0, Nat.zero_le _, by omega, rfl, ⟨Fr.refl _ _⟩, ⟨fun j hj => absurd hj (Nat.not_lt_zero _)⟩⟩
    case round =>
      obtain ⟨kk, hkk, hg, rfl, F, N⟩ := hrel
      by_cases hlt : kk < n
      · have hltz : (kk : Int) < (n : Int) := by omega
        have hk0 : (0 : Int) ≤ (kk : Int) := by omega
        obtain ⟨b, o, rfl, hb, hc⟩ := H3.out (by have := HN.out; omega)
        obtain ⟨b', o', rfl, hb', hc'⟩ := K3.out (by have := HN.out; have := HL.out; omega)
        have l1 := Fr.cell (hc kk (by have := HN.out; omega)) F.out (fun h => h)
        have l2 := Fr.cell (hc' kk (by have := HN.out; have := HL.out; omega)) F.out (fun h => h)
        clear hc hc'
        obtain ⟨x, hx⟩ : ∃ x, xs.getD kk ByteArray.empty = x := ⟨_, rfl⟩
        obtain ⟨y, hy⟩ : ∃ y, ys.getD kk ByteArray.empty = y := ⟨_, rfl⟩
        rw [hx] at l1
        rw [hy] at l2
        have HX := Kp.mk hx
        have HY := Kp.mk hy
        clear hx hy
        by_cases he : x.toList = y.toList
        · have he2 : (x.toList == y.toList) = true := by simpa using he
          go_wp2_with fail
          go_quiet (fail)
          go_wp2_with fail
          go_roundg (n - (kk + 1))
          case measure => omega
          case rel =>
            refine ⟨kk + 1, by omega, by omega, by go_num, ⟨F.out.drewN _⟩, ⟨fun j hj => ?_⟩⟩
            by_cases e : j = kk
            · rw [e, HX.out, HY.out]
              rw [Lib.toList_data, Lib.toList_data] at he
              rw [← ba_data x, ← ba_data y, he]
            · exact N.out j (by omega)
        · have he2 : (x.toList == y.toList) = false := by simpa using he
          have hr : R = false := by
            rw [← HR.out]
            refine decide_eq_false (fun h => he ?_)
            rw [← HX.out, ← HY.out, h]
          subst hr
          go_wp2_with fail
          go_quiet (fail)
          go_wp2_with fail
          go_ret
          exact ⟨rfl, F.out.drewN _⟩
      · have hltz : ¬ (kk : Int) < (n : Int) := by omega
        have hr : R = true := by
          rw [← HR.out]
          refine decide_eq_true (List.ext_getElem HL.out (fun j h1 h2 => ?_))
          have := N.out j (by have := HN.out; omega)
          rw [List.getD_eq_getElem?_getD, List.getD_eq_getElem?_getD, List.getElem?_eq_getElem h1, List.getElem?_eq_getElem h2] at this
          exact this
        subst hr
        go_wp2_with fail
        go_ret
        exact ⟨rfl, F.out⟩
  · have hlz : ¬ (xs.length : Int) = (ys.length : Int) := by omega
    have hd : decide (xs = ys) = false := decide_eq_false (fun h => hl (by rw [h]))
    rw [hd]
    clear h3 k3
    go_enter Tryd.func15, Tryd.ntmps15
    go_wp2_with fail
    go_ret
    exact ⟨rfl, Fr.refl _ _⟩

noncomputable def bodyBack : Code := Tryd.f4.body.getD .skip
set_option maxHeartbeats 4000000 in
set_option maxRecDepth 100000 in
theorem back_tail (x : Value) (xs : List ByteArray) (W : World) (u : Nat → Value) (hg : Glob W) (hX : StrS W x xs) (hl : (glue (xs.map (·.data.toList))).length < 4294967280) (hn : xs.length ≤ 30) (Q : Exit → Act → World → Prop)
    (hQ : ∀ (u : Nat → Value) ws, Fr No W ws → Q .ret { tmps := List.toArray (u 0 :: x :: u 2 :: u 3 :: .bool true :: u 5 :: u 6 :: u 7 :: u 8 :: u 9 :: u 10 :: u 11 :: u 12 :: u 13 :: u 14 :: u 15 :: u 16 :: u 17 :: u 18 :: u 19 :: u 20 :: u 21 :: u 22 :: u 23 :: u 24 :: u 25 :: u 26 :: u 27 :: u 28 :: u 29 :: u 30 :: u 31 :: u 32 :: u 33 :: u 34 :: u 35 :: u 36 :: u 37 :: u 38 :: u 39 :: u 40 :: u 41 :: u 42 :: u 43 :: u 44 :: u 45 :: u 46 :: u 47 :: u 48 :: u 49 :: u 50 :: u 51 :: u 52 :: u 53 :: u 54 :: u 55 :: u 56 :: u 57 :: u 58 :: u 59 :: u 60 :: u 61 :: u 62 :: u 63 :: u 64 :: u 65 :: u 66 :: u 67 :: u 68 :: u 69 :: u 70 :: u 71 :: u 72 :: u 73 :: u 74 :: u 75 :: u 76 :: u 77 :: u 78 :: u 79 :: u 80 :: u 81 :: u 82 :: u 83 :: u 84 :: u 85 :: u 86 :: u 87 :: u 88 :: u 89 :: u 90 :: u 91 :: u 92 :: u 93 :: u 94 :: u 95 :: u 96 :: u 97 :: u 98 :: u 99 :: u 100 :: u 101 :: u 102 :: u 103 :: u 104 :: u 105 :: u 106 :: u 107 :: u 108 :: u 109 :: u 110 :: u 111 :: u 112 :: u 113 :: u 114 :: u 115 :: u 116 :: u 117 :: u 118 :: u 119 :: u 120 :: u 121 :: u 122 :: u 123 :: u 124 :: u 125 :: u 126 :: u 127 :: []), defers := [] } ws) :
    Code.wp Tryd.prog (sub [1,1,1,1] bodyBack) Q { tmps := List.toArray (u 0 :: x :: u 2 :: u 3 :: u 4 :: u 5 :: u 6 :: u 7 :: u 8 :: u 9 :: u 10 :: u 11 :: u 12 :: u 13 :: u 14 :: u 15 :: u 16 :: u 17 :: u 18 :: u 19 :: u 20 :: u 21 :: u 22 :: u 23 :: u 24 :: u 25 :: u 26 :: u 27 :: u 28 :: u 29 :: u 30 :: u 31 :: u 32 :: u 33 :: u 34 :: u 35 :: u 36 :: u 37 :: u 38 :: u 39 :: u 40 :: u 41 :: u 42 :: u 43 :: u 44 :: u 45 :: u 46 :: u 47 :: u 48 :: u 49 :: u 50 :: u 51 :: u 52 :: u 53 :: u 54 :: u 55 :: u 56 :: u 57 :: u 58 :: u 59 :: u 60 :: u 61 :: u 62 :: u 63 :: u 64 :: u 65 :: u 66 :: u 67 :: u 68 :: u 69 :: u 70 :: u 71 :: u 72 :: u 73 :: u 74 :: u 75 :: u 76 :: u 77 :: u 78 :: u 79 :: u 80 :: u 81 :: u 82 :: u 83 :: u 84 :: u 85 :: u 86 :: u 87 :: u 88 :: u 89 :: u 90 :: u 91 :: u 92 :: u 93 :: u 94 :: u 95 :: u 96 :: u 97 :: u 98 :: u 99 :: u 100 :: u 101 :: u 102 :: u 103 :: u 104 :: u 105 :: u 106 :: u 107 :: u 108 :: u 109 :: u 110 :: u 111 :: u 112 :: u 113 :: u 114 :: u 115 :: u 116 :: u 117 :: u 118 :: u 119 :: u 120 :: u 121 :: u 122 :: u 123 :: u 124 :: u 125 :: u 126 :: u 127 :: []), defers := [] } W := by
  conv => arg 2; whnf
  have HQ := Kp.mk hQ
  have HG := Kp.mk hg
  have CJ : Kp (∀ w, Glob w → StrS w x xs → Calls Tryd.prog 9 #[x] w fun e w' => e = .returned (.tuple #[.string (joinP xs).1, .int .i64 (joinP xs).2]) ∧ Fr No w w') := ⟨fun w g h => join_any x xs w g h hl (by omega)⟩
  clear hQ hg hl
  by_cases hc : xs.length ≤ 8 ∧ xs.all nameB = true
  · have hj : joinP xs = (ba (pathL xs), 0) := by rw [joinP, if_pos hc]
    have hsp : splitP (ba (pathL xs)) = (xs, 0) := (split_ok _ _).2 ⟨hc.1, hc.2, rfl⟩
    have hgl := glue_names hc.1 (fun z hz => (name_parts (List.all_eq_true.1 hc.2 z hz)).2.1)
    have hsz : (ba (pathL xs)).size < 4294967281 := by
      have : (ba (pathL xs)).size = (pathL xs).length := by rw [Lib.size_eq]
      rw [this, pathL, List.length_cons]; omega
    rw [hj] at CJ
    obtain ⟨s, hs⟩ : ∃ s, s = ba (pathL xs) := ⟨_, rfl⟩
    rw [← hs] at CJ hsp hsz
    have CS : Kp (∀ w, Glob w → Calls Tryd.prog 7 #[.string s] w fun e w' => Tell w xs 0 e w') := ⟨fun w g => by
      have h := split_any s w g hsz
      rw [hsp] at h
      exact h⟩
    have CT : Kp (∀ u w, StrS w u xs → StrS w x xs → Calls Tryd.prog 15 #[u, x] w fun e w' => e = .returned (.bool true) ∧ Fr No w w') := ⟨fun u w h1 h2 => by
      have h := texts_any u x xs xs w h1 h2
      rw [decide_eq_true rfl] at h
      exact h⟩
    clear hj hsp hgl hsz hs hc
    go_wp2_with (first
      | (go_at_call 9; go_must (refine (CJ.out _ HG.out hX).mono ?_); rintro e w1 ⟨rfl, f1⟩)
      | (go_at_call 7; go_must (refine (CS.out _ (HG.out.no f1)).mono ?_); rintro e w2 ⟨v, rfl, hv, f2⟩)
      | (go_at_call 15; go_must (refine (CT.out _ _ hv (hX.no (f1.no f2))).mono ?_); rintro e w3 ⟨rfl, f3⟩))
    exact K_u (K := Q .ret) (fun u => HQ.out u _ ((f1.no f2).no f3)) rfl
  · have hj : joinP xs = (⟨#[]⟩, 14) := by rw [joinP, if_neg hc]
    rw [hj] at CJ
    clear hj hc
    go_wp2_with (first
      | (go_at_call 9; go_must (refine (CJ.out _ HG.out hX).mono ?_); rintro e w1 ⟨rfl, f1⟩))
    exact K_u (K := Q .ret) (fun u => HQ.out u _ f1) rfl
set_option maxHeartbeats 4000000 in
set_option maxRecDepth 100000 in
theorem back_law (a : ByteArray) (x : Value) (xs : List ByteArray) (W : World) (hg : Glob W) (hX : StrS W x xs) (hl : xs.length ≤ 30 → (glue (xs.map (·.data.toList))).length < 4294967280) :
    Calls Tryd.prog 4 #[.string a, x] W fun e w' => e = .returned (.bool true) ∧ Fr No W w' := by
  have HG := Kp.mk hg
  have CW : Kp (∀ x y w, Glob w → x.size ≤ 500 → y.size ≤ 500 → Calls Tryd.prog 16 #[.string x, .string y] w fun e w' => e = .returned (.bool (withinB x y)) ∧ Fr No w w') := ⟨fun x y w g h1 h2 => within_any x y w g (by omega) (by omega)⟩
  clear hg
  obtain ⟨A, c, rfl, h1, h2, h3⟩ := hX.out
  clear h3
  by_cases ha : a.size ≤ 500
  · have haz : ¬ (500 : Int) < (a.size : Int) := by omega
    by_cases hn : xs.length ≤ 30
    · have hnz : ¬ (30 : Int) < (xs.length : Int) := by omega
      have hnd : decide ((500 : Int) < (a.size : Int)) = false := decide_eq_false haz
      have hnd2 : decide ((30 : Int) < (xs.length : Int)) = false := decide_eq_false hnz
      have HL := Kp.mk (hl hn)
      have CS : Kp (∀ w, Glob w → Calls Tryd.prog 7 #[.string a] w fun e w' => Tell w (splitP a).1 (splitP a).2 e w') := ⟨fun w h => split_any a w h (by omega)⟩
      have hsc := split_code a
      clear hl
      go_enter Tryd.func4, Tryd.ntmps4
      go_upto_if 25 with (first | (go_at_call 6; go_must (refine (awake_any _ HG.out).mono ?_); rintro e w1 ⟨rfl, F⟩; have HG := Kp.mk (HG.out.no F); have hX := hX.no F))
      refine wp_cond_false rfl ?_
      refine wp_skip ?_
      simp only [Exit.then]
      refine ‹∀ (a : Act) (w : World), Code.wp Tryd.prog _ _ a w → _› _ _ ?_
      refine wp_seq_k (fun K hK => ?_)
      have HK := Kp.mk hK
      clear hK
      rcases hsc with h0 | h0
      · obtain ⟨ys, hys⟩ : ∃ ys, (splitP a).1 = ys := ⟨_, rfl⟩
        have hjn := join_split h0
        have hwr := within_root h0
        have hws := within_self a
        have hns := split_names a
        have hpf := parent_facts h0
        rw [hys] at CS hjn hns hpf
        rw [h0] at CS hws
        have W1 : Kp (withinB a a = true) := ⟨by rw [hws]; rfl⟩
        have W2 := Kp.mk hwr
        have h47 : (⟨#[47]⟩ : ByteArray).size ≤ 500 := by decide
        have CJ : Kp (∀ v w, Glob w → StrS w v ys → Calls Tryd.prog 9 #[v] w fun e w' => e = .returned (.tuple #[.string a, .int .i64 0]) ∧ Fr No w w') := ⟨fun v w g h => by
          have h := join_any v ys w g h (by have := glue_names hns.1 hns.2; omega) (by have := hns.1; omega)
          rw [hjn] at h
          exact h⟩
        by_cases hy : ys = []
        · have hp : parentP a = (⟨#[]⟩, ⟨#[]⟩, 17) := by rw [parentP, h0, hys, if_neg (by simp), if_pos hy]
          have CP : Kp (∀ w, Glob w → Calls Tryd.prog 11 #[.string a] w fun e w' => e = .returned (.tuple #[.string ⟨#[]⟩, .string ⟨#[]⟩, .int .i64 17]) ∧ Fr No w w') := ⟨fun w g => by
            have h := parent_any a w g (by omega)
            rw [hp] at h
            exact h⟩
          subst hy
          clear hp hjn hwr hws hns hpf h0 hys
          go_wp2_with (first | (go_at_call 7; go_must (refine (CS.out _ HG.out).mono ?_); rintro e w2 ⟨v, rfl, hv, f2⟩; have HG := Kp.mk (HG.out.no f2); have hX := hX.no f2; have F := F.no f2; obtain ⟨A5, c5, rfl, k1, k2, k3⟩ := hv.out; clear k3) | (go_at_call 9; go_must (refine (CJ.out _ _ HG.out hv).mono ?_); rintro e w3 ⟨rfl, f3⟩; have HG := Kp.mk (HG.out.no f3); have hX := hX.no f3; have F := F.no f3) | (go_at_call 16; go_must (refine (CW.out _ _ _ HG.out (by assumption) (by assumption)).mono ?_); rintro e w4 ⟨rfl, f4⟩; have HG := Kp.mk (HG.out.no f4); have hX := hX.no f4; have F := F.no f4; (first | rw [W1.out] | rw [W2.out] | rw [W3.out] | rw [W4.out])) | (go_at_call 11; go_must (refine (CP.out _ HG.out).mono ?_); rintro e w5 ⟨rfl, f5⟩; have HG := Kp.mk (HG.out.no f5); have hX := hX.no f5; have F := F.no f5))
          refine HK.out _ _ ?_
          refine wp_u (fun u => back_tail _ xs _ u HG.out hX HL.out hn _ (fun u ws f => ?_)) rfl
          go_ret
          exact ⟨rfl, F.no f⟩
        · obtain ⟨p, n, hp, hps, hns2, w3, w4, hnb, hcase⟩ := hpf hy
          have W3 := Kp.mk w3
          have W4 := Kp.mk w4
          have hyl : (0 : Int) < (ys.length : Int) := by have := List.length_pos_iff.2 hy; omega
          have CP : Kp (∀ w, Glob w → Calls Tryd.prog 11 #[.string a] w fun e w' => e = .returned (.tuple #[.string p, .string n, .int .i64 0]) ∧ Fr No w w') := ⟨fun w g => by
            have h := parent_any a w g (by omega)
            rw [hp] at h
            exact h⟩
          have CR : Kp (∀ w, Calls Tryd.prog 13 #[.string n] w fun e w' => e = .returned (.bool true) ∧ Fr No w w') := ⟨fun w => by
            have h := name_any n w (by omega)
            rw [hnb] at h
            exact h⟩
          clear hp hjn hwr hws hns hpf h0 hys w3 w4 hnb hy
          rcases hcase with ⟨hq, hcat⟩ | ⟨hq, hcat⟩
          · have hcat2 : ((⟨#[47]⟩ : ByteArray) ++ n).toList = a.toList := by rw [hcat]
            go_wp2_with (first | (go_at_call 7; go_must (refine (CS.out _ HG.out).mono ?_); rintro e w2 ⟨v, rfl, hv, f2⟩; have HG := Kp.mk (HG.out.no f2); have hX := hX.no f2; have F := F.no f2; obtain ⟨A5, c5, rfl, k1, k2, k3⟩ := hv.out; clear k3) | (go_at_call 9; go_must (refine (CJ.out _ _ HG.out hv).mono ?_); rintro e w3 ⟨rfl, f3⟩; have HG := Kp.mk (HG.out.no f3); have hX := hX.no f3; have F := F.no f3) | (go_at_call 16; go_must (refine (CW.out _ _ _ HG.out (by assumption) (by assumption)).mono ?_); rintro e w4 ⟨rfl, f4⟩; have HG := Kp.mk (HG.out.no f4); have hX := hX.no f4; have F := F.no f4; (first | rw [W1.out] | rw [W2.out] | rw [W3.out] | rw [W4.out])) | (go_at_call 11; go_must (refine (CP.out _ HG.out).mono ?_); rintro e w5 ⟨rfl, f5⟩; have HG := Kp.mk (HG.out.no f5); have hX := hX.no f5; have F := F.no f5) | (go_at_call 13; go_must (refine (CR.out _).mono ?_); rintro e w6 ⟨rfl, f6⟩; have HG := Kp.mk (HG.out.no f6); have hX := hX.no f6; have F := F.no f6))
            refine HK.out _ _ ?_
            refine wp_u (fun u => back_tail _ xs _ u HG.out hX HL.out hn _ (fun u ws f => ?_)) rfl
            go_ret
            exact ⟨rfl, F.no f⟩
          · have hcat2 : (p ++ (⟨#[47]⟩ : ByteArray) ++ n).toList = a.toList := by rw [hcat]
            go_wp2_with (first | (go_at_call 7; go_must (refine (CS.out _ HG.out).mono ?_); rintro e w2 ⟨v, rfl, hv, f2⟩; have HG := Kp.mk (HG.out.no f2); have hX := hX.no f2; have F := F.no f2; obtain ⟨A5, c5, rfl, k1, k2, k3⟩ := hv.out; clear k3) | (go_at_call 9; go_must (refine (CJ.out _ _ HG.out hv).mono ?_); rintro e w3 ⟨rfl, f3⟩; have HG := Kp.mk (HG.out.no f3); have hX := hX.no f3; have F := F.no f3) | (go_at_call 16; go_must (refine (CW.out _ _ _ HG.out (by assumption) (by assumption)).mono ?_); rintro e w4 ⟨rfl, f4⟩; have HG := Kp.mk (HG.out.no f4); have hX := hX.no f4; have F := F.no f4; (first | rw [W1.out] | rw [W2.out] | rw [W3.out] | rw [W4.out])) | (go_at_call 11; go_must (refine (CP.out _ HG.out).mono ?_); rintro e w5 ⟨rfl, f5⟩; have HG := Kp.mk (HG.out.no f5); have hX := hX.no f5; have F := F.no f5) | (go_at_call 13; go_must (refine (CR.out _).mono ?_); rintro e w6 ⟨rfl, f6⟩; have HG := Kp.mk (HG.out.no f6); have hX := hX.no f6; have F := F.no f6))
            refine HK.out _ _ ?_
            refine wp_u (fun u => back_tail _ xs _ u HG.out hX HL.out hn _ (fun u ws f => ?_)) rfl
            go_ret
            exact ⟨rfl, F.no f⟩
      · rw [h0] at CS
        clear h0
        go_wp2_with (first | (go_at_call 7; go_must (refine (CS.out _ HG.out).mono ?_); rintro e w2 ⟨v, rfl, hv, f2⟩; have HG := Kp.mk (HG.out.no f2); have hX := hX.no f2; have F := F.no f2; obtain ⟨A5, c5, rfl, k1, k2, k3⟩ := hv.out; clear k3))
        refine HK.out _ _ ?_
        refine wp_u (fun u => back_tail _ xs _ u HG.out hX HL.out hn _ (fun u ws f => ?_)) rfl
        go_ret
        exact ⟨rfl, F.no f⟩
    · have hnz : (30 : Int) < (xs.length : Int) := by omega
      go_enter Tryd.func4, Tryd.ntmps4
      go_wp2_with (first | (go_at_call 6; go_must (refine (awake_any _ HG.out).mono ?_); rintro e w1 ⟨rfl, F⟩; have HG := Kp.mk (HG.out.no F); have hX := hX.no F))
      go_ret
      exact ⟨rfl, F⟩
  · have haz : (500 : Int) < (a.size : Int) := by omega
    go_enter Tryd.func4, Tryd.ntmps4
    go_wp2_with (first | (go_at_call 6; go_must (refine (awake_any _ HG.out).mono ?_); rintro e w1 ⟨rfl, F⟩; have HG := Kp.mk (HG.out.no F); have hX := hX.no F))
    go_ret
    exact ⟨rfl, F⟩
end Go.Proofs.YtenlokbfjajbbaaDoor.Pa
