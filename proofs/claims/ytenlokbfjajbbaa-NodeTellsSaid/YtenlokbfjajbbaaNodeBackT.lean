/- The law NodeBack, its second half. Conditions: sizes are bounded, as written out. -/
import Derived.Test.YtenlokbfjajbbaaNodeAwake
set_option linter.unusedSimpArgs false
set_option linter.unusedVariables false
namespace Go.Proofs.Ytenlokbfjajbbaa.Nd
open Go Go.RowKit Go.Proofs.YtenlokbfjajbbaaW.PrintWords Go.Proofs.Ytenlokbfjajbbaa.Ev Go.Proofs.Ytenlokbfjajbbaa.Reg Go.Proofs.Ytenlokbfjajbbaa.Sb

noncomputable def bodyBack : Code := Try.f8.body.getD .skip
theorem few_parts {N : Nd} (h : fewB N = true) : N.ents.length ≤ 80 ∧ Small N.ents ∧ N.data.size ≤ 5000 ∧ N.target.size ≤ 500 := by
  have hs := few_small h
  simp only [fewB, Bool.and_eq_true, decide_eq_true_eq] at h
  exact ⟨h.1.1.1, hs, h.1.2, h.2⟩
theorem printL_len {N : Nd} (h : fewB N = true) : (printL N).length ≤ 1099511627776 := by
  obtain ⟨h1, h2, h3, h4⟩ := few_parts h
  have hf := flat_len h2
  have hd : N.data.data.toList.length = N.data.size := by rw [Array.length_toList]; rfl
  have ht : N.target.data.toList.length = N.target.size := by rw [Array.length_toList]; rfl
  have hb : N.ents.length * 4294967300 ≤ 80 * 4294967300 := Nat.mul_le_mul_right _ h1
  simp only [printL, List.length_append, List.length_cons, List.length_nil, hd, ht]
  omega

set_option maxHeartbeats 4000000 in
set_option maxRecDepth 100000 in
theorem back_tail (g3 g4 : Nat) (M N : Nd) (x y : Value) (W : World) (u : Nat → Value) (hM : EntS W x M.ents) (hN : EntS W y N.ents) (fM : fewB M = true) (fN : fewB N = true)
    (b3 : Blk W g3 56 (ndL M.kind M.mode M.data M.target x)) (b4 : Blk W g4 56 (ndL N.kind N.mode N.data N.target y)) (Q : Exit → Act → World → Prop)
    (hQ : ∀ W', Fr No W W' → ∀ u : Nat → Value, Q .ret { tmps := List.toArray (u 0 :: u 1 :: u 2 :: .pointer (some ⟨g3, 0, none⟩) :: .pointer (some ⟨g4, 0, none⟩) :: undef :: .bool true :: u 7 :: u 8 :: u 9 :: u 10 :: u 11 :: u 12 :: u 13 :: u 14 :: u 15 :: u 16 :: u 17 :: u 18 :: u 19 :: u 20 :: u 21 :: u 22 :: u 23 :: u 24 :: u 25 :: u 26 :: u 27 :: u 28 :: u 29 :: u 30 :: u 31 :: u 32 :: u 33 :: u 34 :: u 35 :: u 36 :: u 37 :: u 38 :: u 39 :: u 40 :: u 41 :: u 42 :: u 43 :: u 44 :: u 45 :: u 46 :: u 47 :: u 48 :: u 49 :: u 50 :: u 51 :: u 52 :: u 53 :: u 54 :: u 55 :: u 56 :: u 57 :: u 58 :: u 59 :: u 60 :: u 61 :: u 62 :: u 63 :: u 64 :: u 65 :: u 66 :: u 67 :: u 68 :: u 69 :: u 70 :: u 71 :: u 72 :: u 73 :: u 74 :: u 75 :: u 76 :: u 77 :: u 78 :: u 79 :: u 80 :: u 81 :: u 82 :: u 83 :: u 84 :: u 85 :: u 86 :: u 87 :: u 88 :: u 89 :: u 90 :: u 91 :: u 92 :: u 93 :: u 94 :: u 95 :: u 96 :: u 97 :: u 98 :: u 99 :: []), defers := [] } W') :
    Code.wp Try.prog (sub [1,1,1,1] bodyBack) Q { tmps := List.toArray (u 0 :: u 1 :: u 2 :: .pointer (some ⟨g3, 0, none⟩) :: .pointer (some ⟨g4, 0, none⟩) :: undef :: u 6 :: u 7 :: u 8 :: u 9 :: u 10 :: u 11 :: u 12 :: u 13 :: u 14 :: u 15 :: u 16 :: u 17 :: u 18 :: u 19 :: u 20 :: u 21 :: u 22 :: u 23 :: u 24 :: u 25 :: u 26 :: u 27 :: u 28 :: u 29 :: u 30 :: u 31 :: u 32 :: u 33 :: u 34 :: u 35 :: u 36 :: u 37 :: u 38 :: u 39 :: u 40 :: u 41 :: u 42 :: u 43 :: u 44 :: u 45 :: u 46 :: u 47 :: u 48 :: u 49 :: u 50 :: u 51 :: u 52 :: u 53 :: u 54 :: u 55 :: u 56 :: u 57 :: u 58 :: u 59 :: u 60 :: u 61 :: u 62 :: u 63 :: u 64 :: u 65 :: u 66 :: u 67 :: u 68 :: u 69 :: u 70 :: u 71 :: u 72 :: u 73 :: u 74 :: u 75 :: u 76 :: u 77 :: u 78 :: u 79 :: u 80 :: u 81 :: u 82 :: u 83 :: u 84 :: u 85 :: u 86 :: u 87 :: u 88 :: u 89 :: u 90 :: u 91 :: u 92 :: u 93 :: u 94 :: u 95 :: u 96 :: u 97 :: u 98 :: u 99 :: []), defers := [] } W := by
  conv => arg 2; whnf
  have HQ := Kp.mk hQ
  obtain ⟨hM1, hM2, hM3, hM4⟩ := few_parts fM
  have HM := Kp.mk hM2
  have HN := Kp.mk (few_parts fN).2.1
  have cP : ∀ (N : Nd) v W, EntS W v N.ents → fewB N = true → ∀ R, printN N = R → Calls Try.prog 37 #[ndV N v] W fun e w' => e = .returned (.tuple #[.string R.1, .int .i64 R.2]) ∧ Fr No W w' := fun N v W h hf R hr => by
    obtain ⟨h1, h2, h3, h4⟩ := few_parts hf
    have h := print_any N v W h h2 (by omega) (by omega)
    rw [hr] at h
    exact h
  have cS : ∀ M N u v W, EntS W u M.ents → EntS W v N.ents → ∀ b, sameB M N = b → Calls Try.prog 49 #[ndV M u, ndV N v] W fun e w' => e = .returned (.bool b) ∧ Fr No W w' := fun M N u v W h1 h2 b hb => by
    have h := same_any M N u v W h1 h2
    rw [hb] at h
    exact h
  have cR : ∀ v W, EntS W v M.ents → ∀ b, rightB M = b → Calls Try.prog 47 #[ndV M v] W fun e w' => e = .returned (.bool b) ∧ Fr No W w' := fun v W h b hb => by
    have h := right_any M v W h hM2
    rw [hb] at h
    exact h
  have F := Fr.refl No W
  have FM := Kp.mk fM
  have FN := Kp.mk fN
  clear hQ hM2 fM fN
  cases hr : rightB M with
  | true =>
    have hp : printN M = (bs (printL M), 0) := by rw [printN, hr]; rfl
    have CP1 := Kp.mk (cP M x W hM FM.out _ hp)
    have CS1 := Kp.mk (fun W u v h1 h2 => cS M M u v W h1 h2 _ (same_refl M))
    have cA : ∀ W, Calls Try.prog 39 #[.string (bs (printL M))] W fun e w' => Gives W M 0 e w' := fun W => by
      have h := parse_any (printL M) W (printL_len FM.out)
      rw [parse_print hr] at h
      exact h
    have CA := Kp.mk cA
    clear cA
    cases hq : rightB N with
    | false =>
      have hp2 : printN N = (⟨#[]⟩, 2) := by rw [printN, hq]; rfl
      have CP2 := Kp.mk (fun W h => cP N y W h FN.out _ hp2)
      clear cP cS cR hp hp2 hr hq
      go_wp2_with (first
        | ((with_reducible refine gate_dst (N := 57) rfl ?_); go_must (refine ev_load_row rfl 56 _ rfl g3 rfl 56 _ b3 _ Try.underlying56 rfl sizeNd ?_))
        | ((with_reducible refine gate_dst (N := 62) rfl ?_); go_must (refine ev_load_row rfl 56 _ rfl g4 rfl 56 _ b4 _ Try.underlying56 rfl sizeNd ?_))
        | (go_at_call 37; refine CP1.out.mono ?_; rintro e w1 ⟨rfl, f1⟩; have b3 := b3.no f1; have b4 := b4.no f1; have hM := hM.no f1; have hN := hN.no f1; have F := F.no f1; clear CP1)
        | (go_at_call 37; go_must (refine (CP2.out _ hN).mono ?_); rintro e w2 ⟨rfl, f2⟩; have b3 := b3.no f2; have b4 := b4.no f2; have hM := hM.no f2; have hN := hN.no f2; have F := F.no f2)
        | (go_at_call 39; go_must (refine (CA.out _).mono ?_); rintro e w3 ⟨vz, rfl, ez, f3⟩; have b3 := b3.no f3; have b4 := b4.no f3; have hM := hM.no f3; have hN := hN.no f3; have F := F.no f3)
        | ((with_reducible refine gate_dst (N := 15) rfl ?_); go_must (refine ev_alloc rfl 56 rfl _ (ndL 0 0 ⟨#[]⟩ ⟨#[]⟩ (.slice none 0 0)) zeroNd rfl ?_); intro g15 w4 hg15 f4 b15)
        | ((with_reducible refine gate_store (t := 56) (p := 15) rfl ?_); go_must (refine ev_store_row rfl 56 _ _ rfl g15 (ndL M.kind M.mode M.data M.target vz).toArray rfl rfl 56 _ b15 sizeNd rfl (ndL_one _ _ _ _ ez.one) ?_); intro w5 s5 B15; have F5 := f4.one s5 (.inr hg15); have b3 := b3.no F5; have b4 := b4.no F5; have hM := hM.no F5; have hN := hN.no F5; have F := F.no F5; have ez := ez.no F5; have c0 := b3.at_ 0 rfl; have c1 := b3.at_ 1 rfl; have c2 := b3.at_ 2 rfl; have c3 := b3.at_ 3 rfl; have c4 := b3.at_ 4 rfl; have d0 := B15.at_ 0 rfl; have d1 := B15.at_ 1 rfl; have d2 := B15.at_ 2 rfl; have d3 := B15.at_ 3 rfl; have d4 := B15.at_ 4 rfl)
        | (go_at_call 49; refine (CS1.out _ _ _ ez hM).mono ?_; rintro e w6 ⟨rfl, f6⟩; have b3 := b3.no f6; have b4 := b4.no f6; have hM := hM.no f6; have hN := hN.no f6; have F := F.no f6; have c0 := b3.at_ 0 rfl; have c1 := b3.at_ 1 rfl; have c2 := b3.at_ 2 rfl; have c3 := b3.at_ 3 rfl; have c4 := b3.at_ 4 rfl; have d0 := b4.at_ 0 rfl; have d1 := b4.at_ 1 rfl; have d2 := b4.at_ 2 rfl; have d3 := b4.at_ 3 rfl; have d4 := b4.at_ 4 rfl; clear CS1))
      exact K_u (HQ.out _ F) rfl
    | true =>
      have hp2 : printN N = (bs (printL N), 0) := by rw [printN, hq]; rfl
      have CP2 := Kp.mk (fun W h => cP N y W h FN.out _ hp2)
      have hps := print_same hr hq
      cases hb : sameB M N with
      | true =>
        have hst : printL N = printL M := (hps.2 hb).symm
        rw [hst] at CP2
        have CS2 := Kp.mk (fun W h1 h2 => cS M N x y W h1 h2 _ hb)
        clear cP cS cR hp hp2 hr hq hps hb hst
        go_wp2_with (first
          | ((with_reducible refine gate_dst (N := 57) rfl ?_); go_must (refine ev_load_row rfl 56 _ rfl g3 rfl 56 _ b3 _ Try.underlying56 rfl sizeNd ?_))
          | ((with_reducible refine gate_dst (N := 62) rfl ?_); go_must (refine ev_load_row rfl 56 _ rfl g4 rfl 56 _ b4 _ Try.underlying56 rfl sizeNd ?_))
          | (go_at_call 37; refine CP1.out.mono ?_; rintro e w1 ⟨rfl, f1⟩; have b3 := b3.no f1; have b4 := b4.no f1; have hM := hM.no f1; have hN := hN.no f1; have F := F.no f1; clear CP1)
          | (go_at_call 37; go_must (refine (CP2.out _ hN).mono ?_); rintro e w2 ⟨rfl, f2⟩; have b3 := b3.no f2; have b4 := b4.no f2; have hM := hM.no f2; have hN := hN.no f2; have F := F.no f2)
          | (go_at_call 39; go_must (refine (CA.out _).mono ?_); rintro e w3 ⟨vz, rfl, ez, f3⟩; have b3 := b3.no f3; have b4 := b4.no f3; have hM := hM.no f3; have hN := hN.no f3; have F := F.no f3)
          | ((with_reducible refine gate_dst (N := 15) rfl ?_); go_must (refine ev_alloc rfl 56 rfl _ (ndL 0 0 ⟨#[]⟩ ⟨#[]⟩ (.slice none 0 0)) zeroNd rfl ?_); intro g15 w4 hg15 f4 b15)
          | ((with_reducible refine gate_store (t := 56) (p := 15) rfl ?_); go_must (refine ev_store_row rfl 56 _ _ rfl g15 (ndL M.kind M.mode M.data M.target vz).toArray rfl rfl 56 _ b15 sizeNd rfl (ndL_one _ _ _ _ ez.one) ?_); intro w5 s5 B15; have F5 := f4.one s5 (.inr hg15); have b3 := b3.no F5; have b4 := b4.no F5; have hM := hM.no F5; have hN := hN.no F5; have F := F.no F5; have ez := ez.no F5; have c0 := b3.at_ 0 rfl; have c1 := b3.at_ 1 rfl; have c2 := b3.at_ 2 rfl; have c3 := b3.at_ 3 rfl; have c4 := b3.at_ 4 rfl; have d0 := B15.at_ 0 rfl; have d1 := B15.at_ 1 rfl; have d2 := B15.at_ 2 rfl; have d3 := B15.at_ 3 rfl; have d4 := B15.at_ 4 rfl)
          | (go_at_call 49; refine (CS1.out _ _ _ ez hM).mono ?_; rintro e w6 ⟨rfl, f6⟩; have b3 := b3.no f6; have b4 := b4.no f6; have hM := hM.no f6; have hN := hN.no f6; have F := F.no f6; have c0 := b3.at_ 0 rfl; have c1 := b3.at_ 1 rfl; have c2 := b3.at_ 2 rfl; have c3 := b3.at_ 3 rfl; have c4 := b3.at_ 4 rfl; have d0 := b4.at_ 0 rfl; have d1 := b4.at_ 1 rfl; have d2 := b4.at_ 2 rfl; have d3 := b4.at_ 3 rfl; have d4 := b4.at_ 4 rfl; clear CS1)
          | (go_at_call 49; go_must (refine (CS2.out _ hM hN).mono ?_); rintro e w7 ⟨rfl, f7⟩; have F := F.no f7))
        exact K_u (HQ.out _ F) rfl
      | false =>
        have hst : (printL M == printL N) = false := by
          rw [beq_eq_false_iff_ne]
          intro h2
          rw [hps.1 h2] at hb
          cases hb
        have CS2 := Kp.mk (fun W h1 h2 => cS M N x y W h1 h2 _ hb)
        clear cP cS cR hp hp2 hr hq hps hb
        go_wp2_with (first
          | ((with_reducible refine gate_dst (N := 57) rfl ?_); go_must (refine ev_load_row rfl 56 _ rfl g3 rfl 56 _ b3 _ Try.underlying56 rfl sizeNd ?_))
          | ((with_reducible refine gate_dst (N := 62) rfl ?_); go_must (refine ev_load_row rfl 56 _ rfl g4 rfl 56 _ b4 _ Try.underlying56 rfl sizeNd ?_))
          | (go_at_call 37; refine CP1.out.mono ?_; rintro e w1 ⟨rfl, f1⟩; have b3 := b3.no f1; have b4 := b4.no f1; have hM := hM.no f1; have hN := hN.no f1; have F := F.no f1; clear CP1)
          | (go_at_call 37; go_must (refine (CP2.out _ hN).mono ?_); rintro e w2 ⟨rfl, f2⟩; have b3 := b3.no f2; have b4 := b4.no f2; have hM := hM.no f2; have hN := hN.no f2; have F := F.no f2)
          | (go_at_call 39; go_must (refine (CA.out _).mono ?_); rintro e w3 ⟨vz, rfl, ez, f3⟩; have b3 := b3.no f3; have b4 := b4.no f3; have hM := hM.no f3; have hN := hN.no f3; have F := F.no f3)
          | ((with_reducible refine gate_dst (N := 15) rfl ?_); go_must (refine ev_alloc rfl 56 rfl _ (ndL 0 0 ⟨#[]⟩ ⟨#[]⟩ (.slice none 0 0)) zeroNd rfl ?_); intro g15 w4 hg15 f4 b15)
          | ((with_reducible refine gate_store (t := 56) (p := 15) rfl ?_); go_must (refine ev_store_row rfl 56 _ _ rfl g15 (ndL M.kind M.mode M.data M.target vz).toArray rfl rfl 56 _ b15 sizeNd rfl (ndL_one _ _ _ _ ez.one) ?_); intro w5 s5 B15; have F5 := f4.one s5 (.inr hg15); have b3 := b3.no F5; have b4 := b4.no F5; have hM := hM.no F5; have hN := hN.no F5; have F := F.no F5; have ez := ez.no F5; have c0 := b3.at_ 0 rfl; have c1 := b3.at_ 1 rfl; have c2 := b3.at_ 2 rfl; have c3 := b3.at_ 3 rfl; have c4 := b3.at_ 4 rfl; have d0 := B15.at_ 0 rfl; have d1 := B15.at_ 1 rfl; have d2 := B15.at_ 2 rfl; have d3 := B15.at_ 3 rfl; have d4 := B15.at_ 4 rfl)
          | (go_at_call 49; refine (CS1.out _ _ _ ez hM).mono ?_; rintro e w6 ⟨rfl, f6⟩; have b3 := b3.no f6; have b4 := b4.no f6; have hM := hM.no f6; have hN := hN.no f6; have F := F.no f6; have c0 := b3.at_ 0 rfl; have c1 := b3.at_ 1 rfl; have c2 := b3.at_ 2 rfl; have c3 := b3.at_ 3 rfl; have c4 := b3.at_ 4 rfl; have d0 := b4.at_ 0 rfl; have d1 := b4.at_ 1 rfl; have d2 := b4.at_ 2 rfl; have d3 := b4.at_ 3 rfl; have d4 := b4.at_ 4 rfl; clear CS1)
          | (go_at_call 49; go_must (refine (CS2.out _ hM hN).mono ?_); rintro e w7 ⟨rfl, f7⟩; have F := F.no f7))
        try rw [hst]
        exact K_u (HQ.out _ F) rfl
  | false =>
    have hp : printN M = (⟨#[]⟩, 2) := by rw [printN, hr]; rfl
    obtain ⟨R1, R2, hR⟩ : ∃ R1 R2, printN N = (R1, R2) := ⟨_, _, rfl⟩
    have CP1 := Kp.mk (cP M x W hM FM.out _ hp)
    have CP2 := Kp.mk (fun W h => cP N y W h FN.out _ hR)
    have CR := Kp.mk (fun W h => cR x W h _ hr)
    clear cP cS cR hp hR hr
    go_wp2_with (first
      | ((with_reducible refine gate_dst (N := 57) rfl ?_); go_must (refine ev_load_row rfl 56 _ rfl g3 rfl 56 _ b3 _ Try.underlying56 rfl sizeNd ?_))
      | ((with_reducible refine gate_dst (N := 62) rfl ?_); go_must (refine ev_load_row rfl 56 _ rfl g4 rfl 56 _ b4 _ Try.underlying56 rfl sizeNd ?_))
      | (go_at_call 37; refine CP1.out.mono ?_; rintro e w1 ⟨rfl, f1⟩; have b3 := b3.no f1; have b4 := b4.no f1; have hM := hM.no f1; have hN := hN.no f1; have F := F.no f1; clear CP1)
      | (go_at_call 37; go_must (refine (CP2.out _ hN).mono ?_); rintro e w2 ⟨rfl, f2⟩; have b3 := b3.no f2; have hM := hM.no f2; have F := F.no f2; have c0 := b3.at_ 0 rfl; have c1 := b3.at_ 1 rfl; have c2 := b3.at_ 2 rfl; have c3 := b3.at_ 3 rfl; have c4 := b3.at_ 4 rfl)
      | (go_at_call 47; go_must (refine (CR.out _ hM).mono ?_); rintro e w3 ⟨rfl, f3⟩; have F := F.no f3))
    exact K_u (HQ.out _ F) rfl
end Go.Proofs.Ytenlokbfjajbbaa.Nd
