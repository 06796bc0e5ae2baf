/- The law NodeBack: it says yes. No conditions. -/
import Derived.Test.YtenlokbfjajbbaaNodeBackT
set_option linter.unusedSimpArgs false
set_option linter.unusedVariables false
namespace Go.Proofs.Ytenlokbfjajbbaa.Nd
open Go Go.RowKit Go.Proofs.YtenlokbfjajbbaaW.PrintWords Go.Proofs.Ytenlokbfjajbbaa.Ev Go.Proofs.Ytenlokbfjajbbaa.Reg Go.Proofs.Ytenlokbfjajbbaa.Sb

theorem right_small {N : Nd} (h : rightB N = true) : Small N.ents := by
  obtain ⟨_, _, hc⟩ := right_cases h
  rcases hc with ⟨_, _, he⟩ | ⟨_, _, _, hr⟩ | ⟨_, _, he⟩
  · rw [he]; intro e hm; cases hm
  · intro e hm
    have := (rising_ents hr e hm).1
    omega
  · rw [he]; intro e hm; cases hm
theorem right_sizes {N : Nd} (h : rightB N = true) : N.data.size ≤ 4096 ∧ N.target.size ≤ 64 := by
  unfold rightB at h
  split at h
  · cases h
  · split at h
    · simp only [Bool.and_eq_true, decide_eq_true_eq] at h; omega
    · split at h
      · simp only [Bool.and_eq_true, decide_eq_true_eq] at h; omega
      · split at h
        · simp only [Bool.and_eq_true, decide_eq_true_eq] at h; omega
        · cases h
set_option maxHeartbeats 4000000 in
set_option maxRecDepth 100000 in
theorem back_any (M N : Nd) (x y : Value) (s : ByteArray) (W : World) (hM : EntS W x M.ents) (hN : EntS W y N.ents) :
    Calls Try.prog 8 #[ndV M x, ndV N y, .string s] W fun e w' => e = .returned (.bool true) ∧ Fr No W w' := by
  have cF : ∀ M b, fewB M = b → ∀ x W, EntS W x M.ents → Calls Try.prog 36 #[ndV M x] W fun e w' => e = .returned (.bool b) ∧ Fr No W w' := fun M b hb x W h => by
    have h := few_any M x W h
    rw [hb] at h
    exact h
  cases hm : fewB M with
  | false =>
    have CF1 := Kp.mk (cF M _ hm)
    clear cF hm
    go_enter Try.func8, Try.ntmps8
    go_wp2_with (first | ((with_reducible refine gate_dst (N := 3) rfl ?_); go_must (refine ev_box rfl 56 _ rfl _ rfl (ndL M.kind M.mode M.data M.target x) rfl ?_); intro g3 w1 hg3 f1 b3; have hM := hM.no f1; have hN := hN.no f1) | ((with_reducible refine gate_dst (N := 4) rfl ?_); go_must (refine ev_box rfl 56 _ rfl _ rfl (ndL N.kind N.mode N.data N.target y) rfl ?_); intro g4 w2 hg4 f2 b4; have b3 := b3.no f2; have hM := hM.no f2; have hN := hN.no f2; have F := f1.no f2) | (go_at_call 35; go_must (refine (awake_any _).mono ?_); rintro e w3 ⟨rfl, f3⟩; have b3 := b3.no f3; have b4 := b4.no f3; have hM := hM.no f3; have hN := hN.no f3; have F := F.no f3; have c0 := b3.at_ 0 rfl; have c1 := b3.at_ 1 rfl; have c2 := b3.at_ 2 rfl; have c3 := b3.at_ 3 rfl; have c4 := b3.at_ 4 rfl; have d0 := b4.at_ 0 rfl; have d1 := b4.at_ 1 rfl; have d2 := b4.at_ 2 rfl; have d3 := b4.at_ 3 rfl; have d4 := b4.at_ 4 rfl) | (go_at_call 36; refine (CF1.out _ _ hM).mono ?_; rintro e w4 ⟨rfl, f4⟩; have b3 := b3.no f4; have b4 := b4.no f4; have hM := hM.no f4; have hN := hN.no f4; have F := F.no f4; have c0 := b3.at_ 0 rfl; have c1 := b3.at_ 1 rfl; have c2 := b3.at_ 2 rfl; have c3 := b3.at_ 3 rfl; have c4 := b3.at_ 4 rfl; have d0 := b4.at_ 0 rfl; have d1 := b4.at_ 1 rfl; have d2 := b4.at_ 2 rfl; have d3 := b4.at_ 3 rfl; have d4 := b4.at_ 4 rfl; clear CF1))
    go_ret
    exact ⟨rfl, F⟩
  | true =>
    have CF1 := Kp.mk (cF M _ hm)
    have FM := Kp.mk hm
    clear hm
    cases hn : fewB N with
    | false =>
      have CF2 := Kp.mk (cF N _ hn)
      clear cF hn
      go_enter Try.func8, Try.ntmps8
      go_wp2_with (first | ((with_reducible refine gate_dst (N := 3) rfl ?_); go_must (refine ev_box rfl 56 _ rfl _ rfl (ndL M.kind M.mode M.data M.target x) rfl ?_); intro g3 w1 hg3 f1 b3; have hM := hM.no f1; have hN := hN.no f1) | ((with_reducible refine gate_dst (N := 4) rfl ?_); go_must (refine ev_box rfl 56 _ rfl _ rfl (ndL N.kind N.mode N.data N.target y) rfl ?_); intro g4 w2 hg4 f2 b4; have b3 := b3.no f2; have hM := hM.no f2; have hN := hN.no f2; have F := f1.no f2) | (go_at_call 35; go_must (refine (awake_any _).mono ?_); rintro e w3 ⟨rfl, f3⟩; have b3 := b3.no f3; have b4 := b4.no f3; have hM := hM.no f3; have hN := hN.no f3; have F := F.no f3; have c0 := b3.at_ 0 rfl; have c1 := b3.at_ 1 rfl; have c2 := b3.at_ 2 rfl; have c3 := b3.at_ 3 rfl; have c4 := b3.at_ 4 rfl; have d0 := b4.at_ 0 rfl; have d1 := b4.at_ 1 rfl; have d2 := b4.at_ 2 rfl; have d3 := b4.at_ 3 rfl; have d4 := b4.at_ 4 rfl) | (go_at_call 36; refine (CF1.out _ _ hM).mono ?_; rintro e w4 ⟨rfl, f4⟩; have b3 := b3.no f4; have b4 := b4.no f4; have hM := hM.no f4; have hN := hN.no f4; have F := F.no f4; have c0 := b3.at_ 0 rfl; have c1 := b3.at_ 1 rfl; have c2 := b3.at_ 2 rfl; have c3 := b3.at_ 3 rfl; have c4 := b3.at_ 4 rfl; have d0 := b4.at_ 0 rfl; have d1 := b4.at_ 1 rfl; have d2 := b4.at_ 2 rfl; have d3 := b4.at_ 3 rfl; have d4 := b4.at_ 4 rfl; clear CF1) | (go_at_call 36; go_must (refine (CF2.out _ _ hN).mono ?_); rintro e w5 ⟨rfl, f5⟩; have b3 := b3.no f5; have b4 := b4.no f5; have hM := hM.no f5; have hN := hN.no f5; have F := F.no f5; have c0 := b3.at_ 0 rfl; have c1 := b3.at_ 1 rfl; have c2 := b3.at_ 2 rfl; have c3 := b3.at_ 3 rfl; have c4 := b3.at_ 4 rfl; have d0 := b4.at_ 0 rfl; have d1 := b4.at_ 1 rfl; have d2 := b4.at_ 2 rfl; have d3 := b4.at_ 3 rfl; have d4 := b4.at_ 4 rfl))
      go_ret
      exact ⟨rfl, F⟩
    | true =>
      have CF2 := Kp.mk (cF N _ hn)
      have FN := Kp.mk hn
      clear cF hn
      by_cases hl : s.size ≤ 6000
      · have hlz : ¬ (6000 : Int) < (s.size : Int) := by omega
        have hsb : s = bs s.data.toList := rfl
        have hll : s.data.toList.length ≤ 1099511627776 := by rw [Array.length_toList]; have : s.data.size = s.size := rfl; omega
        obtain ⟨Z, cz, hZ⟩ : ∃ Z cz, parseN s.data.toList = (Z, cz) := ⟨_, _, rfl⟩
        have cA : ∀ W, Calls Try.prog 39 #[.string s] W fun e w' => Gives W Z cz e w' := fun W => by
          have h := parse_any s.data.toList W hll
          rw [hZ] at h
          exact h
        have CA := Kp.mk cA
        have HZ := Kp.mk hZ
        clear cA hZ hsb hll
        go_enter Try.func8, Try.ntmps8
        go_upto_if 31 with (first | ((with_reducible refine gate_dst (N := 3) rfl ?_); go_must (refine ev_box rfl 56 _ rfl _ rfl (ndL M.kind M.mode M.data M.target x) rfl ?_); intro g3 w1 hg3 f1 b3; have hM := hM.no f1; have hN := hN.no f1) | ((with_reducible refine gate_dst (N := 4) rfl ?_); go_must (refine ev_box rfl 56 _ rfl _ rfl (ndL N.kind N.mode N.data N.target y) rfl ?_); intro g4 w2 hg4 f2 b4; have b3 := b3.no f2; have hM := hM.no f2; have hN := hN.no f2; have F := f1.no f2) | (go_at_call 35; go_must (refine (awake_any _).mono ?_); rintro e w3 ⟨rfl, f3⟩; have b3 := b3.no f3; have b4 := b4.no f3; have hM := hM.no f3; have hN := hN.no f3; have F := F.no f3; have c0 := b3.at_ 0 rfl; have c1 := b3.at_ 1 rfl; have c2 := b3.at_ 2 rfl; have c3 := b3.at_ 3 rfl; have c4 := b3.at_ 4 rfl; have d0 := b4.at_ 0 rfl; have d1 := b4.at_ 1 rfl; have d2 := b4.at_ 2 rfl; have d3 := b4.at_ 3 rfl; have d4 := b4.at_ 4 rfl) | (go_at_call 36; refine (CF1.out _ _ hM).mono ?_; rintro e w4 ⟨rfl, f4⟩; have b3 := b3.no f4; have b4 := b4.no f4; have hM := hM.no f4; have hN := hN.no f4; have F := F.no f4; have c0 := b3.at_ 0 rfl; have c1 := b3.at_ 1 rfl; have c2 := b3.at_ 2 rfl; have c3 := b3.at_ 3 rfl; have c4 := b3.at_ 4 rfl; have d0 := b4.at_ 0 rfl; have d1 := b4.at_ 1 rfl; have d2 := b4.at_ 2 rfl; have d3 := b4.at_ 3 rfl; have d4 := b4.at_ 4 rfl; clear CF1) | (go_at_call 36; go_must (refine (CF2.out _ _ hN).mono ?_); rintro e w5 ⟨rfl, f5⟩; have b3 := b3.no f5; have b4 := b4.no f5; have hM := hM.no f5; have hN := hN.no f5; have F := F.no f5; have c0 := b3.at_ 0 rfl; have c1 := b3.at_ 1 rfl; have c2 := b3.at_ 2 rfl; have c3 := b3.at_ 3 rfl; have c4 := b3.at_ 4 rfl; have d0 := b4.at_ 0 rfl; have d1 := b4.at_ 1 rfl; have d2 := b4.at_ 2 rfl; have d3 := b4.at_ 3 rfl; have d4 := b4.at_ 4 rfl))
        have hld : decide ((6000 : Int) < (s.size : Int)) = false := decide_eq_false (by omega)
        refine wp_cond_false (show Value.bool (decide ((6000 : Int) < (s.size : Int))) = Value.bool false by rw [hld]) ?_
        refine wp_skip ?_
        simp only [Exit.then]
        refine ‹∀ (a : Act) (w : World), Code.wp Try.prog _ _ a w → _› _ _ ?_
        refine wp_seq_k (fun K hK => ?_)
        have HK := Kp.mk hK
        clear hK
        rcases parse_code s.data.toList with h0 | h0
        · have hcz : cz = 0 := by rw [HZ.out] at h0; exact h0
          subst hcz
          obtain ⟨hrz, hpz⟩ := print_parse HZ.out
          have hpn : printN Z = (s, 0) := by rw [printN, if_pos hrz, hpz]
          have CPZ : Kp (∀ v W, EntS W v Z.ents → Calls Try.prog 37 #[ndV Z v] W fun e w' => e = .returned (.tuple #[.string s, .int .i64 0]) ∧ Fr No W w') := ⟨fun v W h => by
            have h := print_any Z v W h (right_small hrz) (by have := (right_sizes hrz).1; omega) (by have := (right_sizes hrz).2; omega)
            rw [hpn] at h
            exact h⟩
          have CRZ : Kp (∀ v W, EntS W v Z.ents → Calls Try.prog 47 #[ndV Z v] W fun e w' => e = .returned (.bool true) ∧ Fr No W w') := ⟨fun v W h => by
            have h := right_any Z v W h (right_small hrz)
            rw [hrz] at h
            exact h⟩
          clear hrz hpz hpn h0 hld
          go_upto_if 38 with (first | (go_at_call 39; go_must (refine (CA.out _).mono ?_); rintro e w6 ⟨vz, rfl, ez, f6⟩; have b3 := b3.no f6; have b4 := b4.no f6; have hM := hM.no f6; have hN := hN.no f6; have F := F.no f6) | ((with_reducible refine gate_dst (N := 7) rfl ?_); go_must (refine ev_alloc rfl 56 rfl _ (ndL 0 0 ⟨#[]⟩ ⟨#[]⟩ (.slice none 0 0)) zeroNd rfl ?_); intro g7 w7 hg7 f7 b7) | ((with_reducible refine gate_store (t := 56) (p := 7) rfl ?_); go_must (refine ev_store_row rfl 56 _ _ rfl g7 (ndL Z.kind Z.mode Z.data Z.target vz).toArray rfl rfl 56 _ b7 sizeNd rfl (ndL_one _ _ _ _ ez.one) ?_); intro w8 s8 B7; have F8 := f7.one s8 (.inr hg7); have ez := ez.no F8; have b3 := b3.no F8; have b4 := b4.no F8; have hM := hM.no F8; have hN := hN.no F8; have F := F.no F8))
          refine wp_cond_true rfl ?_
          go_upto_if 55 with (first | ((with_reducible refine gate_dst (N := 40) rfl ?_); go_must (refine ev_load_row rfl 56 _ rfl g7 rfl 56 _ B7 _ Try.underlying56 rfl sizeNd ?_)) | (go_at_call 37; go_must (refine (CPZ.out _ _ ez).mono ?_); rintro e w9 ⟨rfl, f9⟩; have B7 := B7.no f9; have ez := ez.no f9; have b3 := b3.no f9; have b4 := b4.no f9; have hM := hM.no f9; have hN := hN.no f9; have F := F.no f9; have e0 := B7.at_ 0 rfl; have e1 := B7.at_ 1 rfl; have e2 := B7.at_ 2 rfl; have e3 := B7.at_ 3 rfl; have e4 := B7.at_ 4 rfl) | (go_at_call 47; go_must (refine (CRZ.out _ _ ez).mono ?_); rintro e w10 ⟨rfl, f10⟩; have b3 := b3.no f10; have b4 := b4.no f10; have hM := hM.no f10; have hN := hN.no f10; have F := F.no f10))
          refine wp_cond_false rfl ?_
          refine wp_skip ?_
          refine HK.out _ _ ?_
          refine wp_u (fun u => back_tail g3 g4 M N x y _ u hM hN FM.out FN.out b3 b4 _ ?_) rfl
          intro W' F' u
          go_ret
          exact ⟨rfl, F.no F'⟩
        · have hcz : Z = zeroN ∧ cz = 2 := by rw [HZ.out] at h0; exact Prod.mk.inj h0
          obtain ⟨rfl, rfl⟩ := hcz
          clear h0 hld
          go_upto_if 38 with (first | (go_at_call 39; go_must (refine (CA.out _).mono ?_); rintro e w6 ⟨vz, rfl, ez, f6⟩; have b3 := b3.no f6; have b4 := b4.no f6; have hM := hM.no f6; have hN := hN.no f6; have F := F.no f6) | ((with_reducible refine gate_dst (N := 7) rfl ?_); go_must (refine ev_alloc rfl 56 rfl _ (ndL 0 0 ⟨#[]⟩ ⟨#[]⟩ (.slice none 0 0)) zeroNd rfl ?_); intro g7 w7 hg7 f7 b7) | ((with_reducible refine gate_store (t := 56) (p := 7) rfl ?_); go_must (refine ev_store_row rfl 56 _ _ rfl g7 (ndL 0 0 ⟨#[]⟩ ⟨#[]⟩ vz).toArray rfl rfl 56 _ b7 sizeNd rfl (ndL_one _ _ _ _ ez.one) ?_); intro w8 s8 B7; have F8 := f7.one s8 (.inr hg7); have ez := ez.no F8; have b3 := b3.no F8; have b4 := b4.no F8; have hM := hM.no F8; have hN := hN.no F8; have F := F.no F8))
          refine wp_cond_false rfl ?_
          refine wp_skip ?_
          refine HK.out _ _ ?_
          refine wp_u (fun u => back_tail g3 g4 M N x y _ u hM hN FM.out FN.out b3 b4 _ ?_) rfl
          intro W' F' u
          go_ret
          exact ⟨rfl, F.no F'⟩
      · have hlz : (6000 : Int) < (s.size : Int) := by omega
        go_enter Try.func8, Try.ntmps8
        go_wp2_with (first | ((with_reducible refine gate_dst (N := 3) rfl ?_); go_must (refine ev_box rfl 56 _ rfl _ rfl (ndL M.kind M.mode M.data M.target x) rfl ?_); intro g3 w1 hg3 f1 b3; have hM := hM.no f1; have hN := hN.no f1) | ((with_reducible refine gate_dst (N := 4) rfl ?_); go_must (refine ev_box rfl 56 _ rfl _ rfl (ndL N.kind N.mode N.data N.target y) rfl ?_); intro g4 w2 hg4 f2 b4; have b3 := b3.no f2; have hM := hM.no f2; have hN := hN.no f2; have F := f1.no f2) | (go_at_call 35; go_must (refine (awake_any _).mono ?_); rintro e w3 ⟨rfl, f3⟩; have b3 := b3.no f3; have b4 := b4.no f3; have hM := hM.no f3; have hN := hN.no f3; have F := F.no f3; have c0 := b3.at_ 0 rfl; have c1 := b3.at_ 1 rfl; have c2 := b3.at_ 2 rfl; have c3 := b3.at_ 3 rfl; have c4 := b3.at_ 4 rfl; have d0 := b4.at_ 0 rfl; have d1 := b4.at_ 1 rfl; have d2 := b4.at_ 2 rfl; have d3 := b4.at_ 3 rfl; have d4 := b4.at_ 4 rfl) | (go_at_call 36; refine (CF1.out _ _ hM).mono ?_; rintro e w4 ⟨rfl, f4⟩; have b3 := b3.no f4; have b4 := b4.no f4; have hM := hM.no f4; have hN := hN.no f4; have F := F.no f4; have c0 := b3.at_ 0 rfl; have c1 := b3.at_ 1 rfl; have c2 := b3.at_ 2 rfl; have c3 := b3.at_ 3 rfl; have c4 := b3.at_ 4 rfl; have d0 := b4.at_ 0 rfl; have d1 := b4.at_ 1 rfl; have d2 := b4.at_ 2 rfl; have d3 := b4.at_ 3 rfl; have d4 := b4.at_ 4 rfl; clear CF1) | (go_at_call 36; go_must (refine (CF2.out _ _ hN).mono ?_); rintro e w5 ⟨rfl, f5⟩; have b3 := b3.no f5; have b4 := b4.no f5; have hM := hM.no f5; have hN := hN.no f5; have F := F.no f5; have c0 := b3.at_ 0 rfl; have c1 := b3.at_ 1 rfl; have c2 := b3.at_ 2 rfl; have c3 := b3.at_ 3 rfl; have c4 := b3.at_ 4 rfl; have d0 := b4.at_ 0 rfl; have d1 := b4.at_ 1 rfl; have d2 := b4.at_ 2 rfl; have d3 := b4.at_ 3 rfl; have d4 := b4.at_ 4 rfl))
        go_ret
        exact ⟨rfl, F⟩
end Go.Proofs.Ytenlokbfjajbbaa.Nd
