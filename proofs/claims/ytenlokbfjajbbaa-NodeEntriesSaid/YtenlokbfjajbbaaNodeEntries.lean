/- The law NodeEntries: it says yes. No conditions. -/
import Derived.Test.YtenlokbfjajbbaaNodeAwake
import Derived.Test.YtenlokbfjajbbaaNodeBack
import Derived.Test.YtenlokbfjajbbaaNodeEnt
set_option linter.unusedSimpArgs false
set_option linter.unusedVariables false
namespace Go.Proofs.Ytenlokbfjajbbaa.Nd
open Go Go.RowKit Go.Proofs.YtenlokbfjajbbaaW.PrintWords Go.Proofs.Ytenlokbfjajbbaa.Ev Go.Proofs.Ytenlokbfjajbbaa.Reg Go.Proofs.Ytenlokbfjajbbaa.Sb

set_option maxHeartbeats 4000000 in
set_option maxRecDepth 100000 in
theorem entries_any (M : Nd) (x : Value) (n : ByteArray) (ino : Int) (W : World) (hM : EntS W x M.ents) :
    Calls Try.prog 9 #[ndV M x, .string n, .int .i64 ino] W fun e w' => e = .returned (.bool true) ∧ Fr No W w' := by
  have cF : ∀ b, fewB M = b → ∀ x W, EntS W x M.ents → Calls Try.prog 36 #[ndV M x] W fun e w' => e = .returned (.bool b) ∧ Fr No W w' := fun b hb x W h => by
    have h := few_any M x W h
    rw [hb] at h
    exact h
  have HM := Kp.mk hM
  cases hm : fewB M with
  | false =>
    have CF1 := Kp.mk (cF _ hm)
    clear cF hm
    go_enter Try.func9, Try.ntmps9
    go_wp2_with (first | ((with_reducible refine gate_dst (N := 3) rfl ?_); go_must (refine ev_box rfl 56 _ rfl _ rfl (ndL M.kind M.mode M.data M.target _) rfl ?_); intro g3 w1 hg3 f1 b3; have hM := hM.no f1) | (go_at_call 35; go_must (refine (awake_any _).mono ?_); rintro e w3 ⟨rfl, f3⟩; have b3 := b3.no f3; have hM := hM.no f3; have F := f1.no f3; have c0 := b3.at_ 0 rfl; have c1 := b3.at_ 1 rfl; have c2 := b3.at_ 2 rfl; have c3 := b3.at_ 3 rfl; have c4 := b3.at_ 4 rfl) | (go_at_call 36; refine (CF1.out _ _ hM).mono ?_; rintro e w4 ⟨rfl, f4⟩; have b3 := b3.no f4; have hM := hM.no f4; have F := F.no f4; have c0 := b3.at_ 0 rfl; have c1 := b3.at_ 1 rfl; have c2 := b3.at_ 2 rfl; have c3 := b3.at_ 3 rfl; have c4 := b3.at_ 4 rfl; clear CF1))
    go_ret
    exact ⟨rfl, F⟩
  | true =>
    have CF1 := Kp.mk (cF _ hm)
    have HS := Kp.mk (few_small hm)
    have HL : Kp (M.ents.length ≤ 1099511627776) := ⟨by have := (few_parts hm).1; omega⟩
    clear cF hm
    by_cases hl : n.size ≤ 100
    · have hlz : ¬ (100 : Int) < (n.size : Int) := by omega
      cases hr : rightB M with
      | false =>
        have CR1 : Kp (∀ v W, EntS W v M.ents → Calls Try.prog 47 #[ndV M v] W fun e w' => e = .returned (.bool false) ∧ Fr No W w') := ⟨fun v W h => by
          have h := right_any M v W h HS.out
          rw [hr] at h
          exact h⟩
        clear hr
        go_enter Try.func9, Try.ntmps9
        go_wp2_with (first | ((with_reducible refine gate_dst (N := 3) rfl ?_); go_must (refine ev_box rfl 56 _ rfl _ rfl (ndL M.kind M.mode M.data M.target _) rfl ?_); intro g3 w1 hg3 f1 b3; have hM := hM.no f1) | (go_at_call 35; go_must (refine (awake_any _).mono ?_); rintro e w3 ⟨rfl, f3⟩; have b3 := b3.no f3; have hM := hM.no f3; have F := f1.no f3; have c0 := b3.at_ 0 rfl; have c1 := b3.at_ 1 rfl; have c2 := b3.at_ 2 rfl; have c3 := b3.at_ 3 rfl; have c4 := b3.at_ 4 rfl) | (go_at_call 36; refine (CF1.out _ _ hM).mono ?_; rintro e w4 ⟨rfl, f4⟩; have b3 := b3.no f4; have hM := hM.no f4; have F := F.no f4; have c0 := b3.at_ 0 rfl; have c1 := b3.at_ 1 rfl; have c2 := b3.at_ 2 rfl; have c3 := b3.at_ 3 rfl; have c4 := b3.at_ 4 rfl; clear CF1) | (go_at_call 47; refine (CR1.out _ _ hM).mono ?_; rintro e w5 ⟨rfl, f5⟩; have b3 := b3.no f5; have hM := hM.no f5; have F := F.no f5; have c0 := b3.at_ 0 rfl; have c1 := b3.at_ 1 rfl; have c2 := b3.at_ 2 rfl; have c3 := b3.at_ 3 rfl; have c4 := b3.at_ 4 rfl; clear CR1))
        go_ret
        exact ⟨rfl, F⟩
      | true =>
        have CR1 : Kp (∀ v W, EntS W v M.ents → Calls Try.prog 47 #[ndV M v] W fun e w' => e = .returned (.bool true) ∧ Fr No W w') := ⟨fun v W h => by
          have h := right_any M v W h HS.out
          rw [hr] at h
          exact h⟩
        obtain ⟨Y, cy, hY⟩ : ∃ Y cy, withN M n ino = (Y, cy) := ⟨_, _, rfl⟩
        have CW : Kp (∀ W, EntS W x M.ents → Calls Try.prog 43 #[ndV M x, .string n, .int .i64 ino] W fun e w' => Gives W Y cy e w') := ⟨fun W h => by
          have h := with_any M x n ino W h (by omega) HL.out
          rw [hY] at h
          exact h⟩
        by_cases hc : cy = 0
        · subst hc
          obtain ⟨p1, p2, p3, p4, p5⟩ := entries_plain hr hY
          have CFi : Kp (∀ v W, EntS W v Y.ents → Calls Try.prog 41 #[ndV Y v, .string n] W fun e w' => e = .returned (.tuple #[.int .i64 ino, .bool true]) ∧ Fr No W w') := ⟨fun v W h => by
            have h := find_any Y v n W h
            rw [p2] at h
            exact h⟩
          have CFk : Kp (∀ v W e, e ∈ M.ents → EntS W v Y.ents → Calls Try.prog 41 #[ndV Y v, .string e.1] W fun x w' => x = .returned (.tuple #[.int .i64 e.2, .bool true]) ∧ Fr No W w') := ⟨fun v W e he h => by
            have h := find_any Y v e.1 W h
            rw [p4 e he] at h
            exact h⟩
          have CO : Kp (∀ v W, EntS W v Y.ents → Calls Try.prog 45 #[ndV Y v, .string n] W fun e w' => Gives W M 0 e w') := ⟨fun v W h => by
            have h := without_any Y v n W h (by rw [p1]; have := HL.out; have := (right_dir hr (with_zero hY).1).2.2; omega)
            rw [p3] at h
            exact h⟩
          have CS : Kp (∀ u v W, EntS W u M.ents → EntS W v M.ents → Calls Try.prog 49 #[ndV M u, ndV M v] W fun e w' => e = .returned (.bool true) ∧ Fr No W w') := ⟨fun u v W h1 h2 => by
            have h := same_any M M u v W h1 h2
            rw [same_refl] at h
            exact h⟩
          have CR2 : Kp (1 ≤ ino → ino ≤ 2147483647 → ∀ v W, EntS W v Y.ents → Calls Try.prog 47 #[ndV Y v] W fun e w' => e = .returned (.bool true) ∧ Fr No W w') := ⟨fun i1 i2 v W h => by
            have hs : Small Y.ents := right_small (p5 i1 i2)
            have h := right_any Y v W h hs
            rw [p5 i1 i2] at h
            exact h⟩
          have hlen : M.ents.length ≤ 63 := by have := (with_zero hY).2.2.2.1; omega
          have hq : (Y.ents.length : Int) = (M.ents.length : Int) + 1 := by omega
          have hq2 : (M.ents.length : Int) ≤ 63 := by omega
          clear p1 p2 p3 p4 p5 hr hY
          obtain ⟨A, c, rfl, h1, h2, h3⟩ := hM.out
          have H3 := Kp.mk h3
          clear h3
          go_enter Try.func9, Try.ntmps9
          go_wp2_with (first | ((with_reducible refine gate_dst (N := 3) rfl ?_); go_must (refine ev_box rfl 56 _ rfl _ rfl (ndL M.kind M.mode M.data M.target _) rfl ?_); intro g3 w1 hg3 f1 b3; have hM := hM.no f1) | (go_at_call 35; go_must (refine (awake_any _).mono ?_); rintro e w3 ⟨rfl, f3⟩; have b3 := b3.no f3; have hM := hM.no f3; have F := f1.no f3; have c0 := b3.at_ 0 rfl; have c1 := b3.at_ 1 rfl; have c2 := b3.at_ 2 rfl; have c3 := b3.at_ 3 rfl; have c4 := b3.at_ 4 rfl) | (go_at_call 36; refine (CF1.out _ _ hM).mono ?_; rintro e w4 ⟨rfl, f4⟩; have b3 := b3.no f4; have hM := hM.no f4; have F := F.no f4; have c0 := b3.at_ 0 rfl; have c1 := b3.at_ 1 rfl; have c2 := b3.at_ 2 rfl; have c3 := b3.at_ 3 rfl; have c4 := b3.at_ 4 rfl; clear CF1) | (go_at_call 47; refine (CR1.out _ _ hM).mono ?_; rintro e w5 ⟨rfl, f5⟩; have b3 := b3.no f5; have hM := hM.no f5; have F := F.no f5; have c0 := b3.at_ 0 rfl; have c1 := b3.at_ 1 rfl; have c2 := b3.at_ 2 rfl; have c3 := b3.at_ 3 rfl; have c4 := b3.at_ 4 rfl; clear CR1) | (go_at_call 43; refine (CW.out _ hM).mono ?_; rintro e w6 ⟨vy, rfl, ey, f6⟩; have b3 := b3.no f6; have hM := hM.no f6; have F := F.no f6; clear CW) | ((with_reducible refine gate_dst (N := 7) rfl ?_); go_must (refine ev_alloc rfl 56 rfl _ (ndL 0 0 ⟨#[]⟩ ⟨#[]⟩ (.slice none 0 0)) zeroNd rfl ?_); intro g7 w7 hg7 f7 b7) | ((with_reducible refine gate_store (t := 56) (p := 7) rfl ?_); go_must (refine ev_store_row rfl 56 _ _ rfl g7 (ndL Y.kind Y.mode Y.data Y.target vy).toArray rfl rfl 56 _ b7 sizeNd rfl (ndL_one _ _ _ _ ey.one) ?_); intro w8 s8 B7; have F8 := f7.one s8 (.inr hg7); have ey := ey.no F8; have b3 := b3.no F8; have hM := hM.no F8; have F := F.no F8; obtain ⟨A7, d7, rfl, k1, k2, k3⟩ := ey.out; clear k3; have d0 := B7.at_ 0 rfl; have d1 := B7.at_ 1 rfl; have d2 := B7.at_ 2 rfl; have d3 := B7.at_ 3 rfl; have d4 := B7.at_ 4 rfl) | (go_at_call 41; go_must (refine (CFi.out _ _ ey).mono ?_); rintro e w9 ⟨rfl, f9⟩; have b3 := b3.no f9; have B7 := B7.no f9; have ey := ey.no f9; have hM := hM.no f9; have F := F.no f9; have c0 := b3.at_ 0 rfl; have c1 := b3.at_ 1 rfl; have c2 := b3.at_ 2 rfl; have c3 := b3.at_ 3 rfl; have c4 := b3.at_ 4 rfl; have d0 := B7.at_ 0 rfl; have d1 := B7.at_ 1 rfl; have d2 := B7.at_ 2 rfl; have d3 := B7.at_ 3 rfl; have d4 := B7.at_ 4 rfl) | (go_at_call 45; go_must (refine (CO.out _ _ ey).mono ?_); rintro e w10 ⟨vz, rfl, ez, f10⟩; have b3 := b3.no f10; have B7 := B7.no f10; have ey := ey.no f10; have hM := hM.no f10; have F := F.no f10) | ((with_reducible refine gate_dst (N := 11) rfl ?_); go_must (refine ev_alloc rfl 56 rfl _ (ndL 0 0 ⟨#[]⟩ ⟨#[]⟩ (.slice none 0 0)) zeroNd rfl ?_); intro g11 w11 hg11 f11 b11) | ((with_reducible refine gate_store (t := 56) (p := 11) rfl ?_); go_must (refine ev_store_row rfl 56 _ _ rfl g11 (ndL M.kind M.mode M.data M.target vz).toArray rfl rfl 56 _ b11 sizeNd rfl (ndL_one _ _ _ _ ez.one) ?_); intro w12 s12 B11; have F12 := f11.one s12 (.inr hg11); have ey := ey.no F12; have ez := ez.no F12; have b3 := b3.no F12; have B7 := B7.no F12; have hM := hM.no F12; have F := F.no F12; have c0 := b3.at_ 0 rfl; have c1 := b3.at_ 1 rfl; have c2 := b3.at_ 2 rfl; have c3 := b3.at_ 3 rfl; have c4 := b3.at_ 4 rfl; have d0 := B7.at_ 0 rfl; have d1 := B7.at_ 1 rfl; have d2 := B7.at_ 2 rfl; have d3 := B7.at_ 3 rfl; have d4 := B7.at_ 4 rfl; have e0 := B11.at_ 0 rfl; have e1 := B11.at_ 1 rfl; have e2 := B11.at_ 2 rfl; have e3 := B11.at_ 3 rfl; have e4 := B11.at_ 4 rfl) | (go_at_call 49; go_must (refine (CS.out _ _ _ ez hM).mono ?_); rintro e w13 ⟨rfl, f13⟩; have b3 := b3.no f13; have B7 := B7.no f13; have ey := ey.no f13; have hM := hM.no f13; have F := F.no f13; have c0 := b3.at_ 0 rfl; have c1 := b3.at_ 1 rfl; have c2 := b3.at_ 2 rfl; have c3 := b3.at_ 3 rfl; have c4 := b3.at_ 4 rfl; have d0 := B7.at_ 0 rfl; have d1 := B7.at_ 1 rfl; have d2 := B7.at_ 2 rfl; have d3 := B7.at_ 3 rfl; have d4 := B7.at_ 4 rfl))
          go_loopg [13] M.ents.length (fun gg s wr => ∃ kk : Nat, kk ≤ M.ents.length ∧ M.ents.length - kk ≤ gg ∧ s = .int .i64 kk ∧ Kp (Fr No w13 wr))
          case atStart => exact ⟨0, Nat.zero_le _, by omega, rfl, ⟨Fr.refl _ _⟩⟩
          case round =>
            obtain ⟨kk, hkk, hg, rfl, FW⟩ := hrel
            by_cases hlt : kk < M.ents.length
            · have hltz : (kk : Int) < (M.ents.length : Int) := by omega
              obtain ⟨b, o, rfl, hb, hcc⟩ := H3.out (by omega)
              have l1 := Fr.cell (hcc kk hlt).1 (F.no FW.out) (fun h => h)
              have l2 := Fr.cell (hcc kk hlt).2 (F.no FW.out) (fun h => h)
              have hmem : M.ents.getD kk default ∈ M.ents := by rw [List.getD_eq_getElem?_getD, List.getElem?_eq_getElem hlt]; exact List.getElem_mem hlt
              have CFe := Kp.mk (fun v W h => CFk.out v W _ hmem h)
              clear hmem hcc
              generalize M.ents.getD kk default = y at l1 l2 CFe
              obtain ⟨y1, y2⟩ := y
              simp only at l1 l2 CFe
              have b3 := b3.no FW.out
              have B7 := B7.no FW.out
              have ey := ey.no FW.out
              have c0 := b3.at_ 0 rfl; have c1 := b3.at_ 1 rfl; have c2 := b3.at_ 2 rfl; have c3 := b3.at_ 3 rfl; have c4 := b3.at_ 4 rfl
              have d0 := B7.at_ 0 rfl; have d1 := B7.at_ 1 rfl; have d2 := B7.at_ 2 rfl; have d3 := B7.at_ 3 rfl; have d4 := B7.at_ 4 rfl
              have hC : Blk wr.drew g3 56 (ndL M.kind M.mode M.data M.target (.slice (some ⟨b, o, none⟩) M.ents.length c)) ∧ Blk wr.drew g7 56 (ndL Y.kind Y.mode Y.data Y.target (.slice A7 Y.ents.length d7)) ∧ wr.drew.cell? ⟨b, o + kk * 2, none⟩ = some (.string y1) ∧ wr.drew.cell? ⟨b, o + kk * 2 + 1, none⟩ = some (.int .i64 y2) ∧ EntS wr.drew (.slice A7 Y.ents.length d7) Y.ents ∧ Fr No wr wr.drew :=
                have fd := (Fr.refl No wr).drew
                ⟨b3.no fd, B7.no fd, Fr.cell l1 fd (fun h => h), Fr.cell l2 fd (fun h => h), ey.no fd, fd⟩
              go_wp2_with fail
              refine region_quiet (C := fun w' => Blk w' g3 56 (ndL M.kind M.mode M.data M.target (.slice (some ⟨b, o, none⟩) M.ents.length c)) ∧ Blk w' g7 56 (ndL Y.kind Y.mode Y.data Y.target (.slice A7 Y.ents.length d7)) ∧ w'.cell? ⟨b, o + kk * 2, none⟩ = some (.string y1) ∧ w'.cell? ⟨b, o + kk * 2 + 1, none⟩ = some (.int .i64 y2) ∧ EntS w' (.slice A7 Y.ents.length d7) Y.ents ∧ Fr No wr w') (by kernel_rfl) (by kernel_rfl) hC ?_
              iterate 13 (first
                | ((with_reducible refine gate_q (N := 97) rfl ?_); refine quiet_call (a' := ?_) Try.func41 (by kernel_rfl) rfl #[ndV Y (.slice A7 Y.ents.length d7), .string y1] (by rfl) rfl (by simp only [List.map_toArray, List.map_cons, List.map_nil]; rfl) (fun w' hC' => (CFe.out _ w' hC'.2.2.2.2.1).mono (by rintro e w'' ⟨rfl, f⟩; exact ⟨rfl, hC'.1.no f, hC'.2.1.no f, Fr.cell hC'.2.2.1 f (fun h => h), Fr.cell hC'.2.2.2.1 f (fun h => h), hC'.2.2.2.2.1.no f, hC'.2.2.2.2.2.no f⟩)) ?_ ?_; rotate_left; (simp only [Act.put, List.setIfInBounds_toArray, List.set_cons_zero, List.set_cons_succ]; rfl))
                | (go_big_quiet_step (fail))
                | (refine quiet_val (v := ?_) (a' := ?_) (by rfl) ?_ ?_ ?_; rotate_left; (rintro w' ⟨s0, s1, s2, s3, s4, s5⟩; have p0 := s1.at_ 0 rfl; have p1 := s1.at_ 1 rfl; have p2 := s1.at_ 2 rfl; have p3 := s1.at_ 3 rfl; have p4 := s1.at_ 4 rfl; have q4 := s0.at_ 4 rfl; go_simp; with_reducible rfl); rotate_left; (simp only [Act.put, List.setIfInBounds_toArray, List.set_cons_zero, List.set_cons_succ]; rfl)))
              refine wpQuiet_nil ?_
              rintro w' ⟨s0, s1, s2, s3, s4, fQ⟩
              have q4 := s0.at_ 4 rfl
              go_wp2_with fail
              go_roundg (M.ents.length - (kk + 1))
              case measure => omega
              case rel => exact ⟨kk + 1, by omega, by omega, by go_num, ⟨FW.out.no fQ⟩⟩
            · have hltz : ¬ (kk : Int) < (M.ents.length : Int) := by omega
              have b3 := b3.no FW.out
              have B7 := B7.no FW.out
              have ey := ey.no FW.out
              have F := F.no FW.out
              have c0 := b3.at_ 0 rfl; have c1 := b3.at_ 1 rfl; have c2 := b3.at_ 2 rfl; have c3 := b3.at_ 3 rfl; have c4 := b3.at_ 4 rfl
              have d0 := B7.at_ 0 rfl; have d1 := B7.at_ 1 rfl; have d2 := B7.at_ 2 rfl; have d3 := B7.at_ 3 rfl; have d4 := B7.at_ 4 rfl
              by_cases i1 : ino < 1
              · go_wp2_with fail
                go_ret
                exact ⟨by simp [i1], F⟩
              · by_cases i2 : 2147483647 < ino
                · go_wp2_with fail
                  go_ret
                  exact ⟨by simp [i1, i2], F⟩
                · have cr := Kp.mk (CR2.out (by omega) (by omega))
                  go_wp2_with (go_at_call 47; go_must (refine (cr.out _ _ ey).mono ?_); rintro e w15 ⟨rfl, f15⟩; have F := F.no f15)
                  go_ret
                  exact ⟨by simp, F⟩
        · have hyz : Y = zeroN := by
            rcases with_code M n ino with h | h
            · rw [hY] at h; exact absurd h hc
            · rw [hY] at h; exact h
          subst hyz
          have hcz : (cy == 0) = false := beq_eq_false_iff_ne.2 hc
          have CS : Kp (∀ v W, EntS W v [] → Calls Try.prog 49 #[ndV zeroN v, ndV zeroN (.slice none 0 0)] W fun e w' => e = .returned (.bool true) ∧ Fr No W w') := ⟨fun v W h => by
            have h := same_any zeroN zeroN v (.slice none 0 0) W h (EntS.nil _)
            rw [same_refl] at h
            exact h⟩
          have HR := Kp.mk hr
          have HY := Kp.mk hY
          clear hr hY
          go_enter Try.func9, Try.ntmps9
          go_wp2_with (first | ((with_reducible refine gate_dst (N := 3) rfl ?_); go_must (refine ev_box rfl 56 _ rfl _ rfl (ndL M.kind M.mode M.data M.target _) rfl ?_); intro g3 w1 hg3 f1 b3; have hM := hM.no f1) | (go_at_call 35; go_must (refine (awake_any _).mono ?_); rintro e w3 ⟨rfl, f3⟩; have b3 := b3.no f3; have hM := hM.no f3; have F := f1.no f3; have c0 := b3.at_ 0 rfl; have c1 := b3.at_ 1 rfl; have c2 := b3.at_ 2 rfl; have c3 := b3.at_ 3 rfl; have c4 := b3.at_ 4 rfl) | (go_at_call 36; refine (CF1.out _ _ hM).mono ?_; rintro e w4 ⟨rfl, f4⟩; have b3 := b3.no f4; have hM := hM.no f4; have F := F.no f4; have c0 := b3.at_ 0 rfl; have c1 := b3.at_ 1 rfl; have c2 := b3.at_ 2 rfl; have c3 := b3.at_ 3 rfl; have c4 := b3.at_ 4 rfl; clear CF1) | (go_at_call 47; refine (CR1.out _ _ hM).mono ?_; rintro e w5 ⟨rfl, f5⟩; have b3 := b3.no f5; have hM := hM.no f5; have F := F.no f5; have c0 := b3.at_ 0 rfl; have c1 := b3.at_ 1 rfl; have c2 := b3.at_ 2 rfl; have c3 := b3.at_ 3 rfl; have c4 := b3.at_ 4 rfl; clear CR1) | (go_at_call 43; refine (CW.out _ hM).mono ?_; rintro e w6 ⟨vy, rfl, ey, f6⟩; have b3 := b3.no f6; have hM := hM.no f6; have F := F.no f6; clear CW) | ((with_reducible refine gate_dst (N := 7) rfl ?_); go_must (refine ev_alloc rfl 56 rfl _ (ndL 0 0 ⟨#[]⟩ ⟨#[]⟩ (.slice none 0 0)) zeroNd rfl ?_); intro g7 w7 hg7 f7 b7) | ((with_reducible refine gate_store (t := 56) (p := 7) rfl ?_); go_must (refine ev_store_row rfl 56 _ _ rfl g7 (ndL 0 0 ⟨#[]⟩ ⟨#[]⟩ vy).toArray rfl rfl 56 _ b7 sizeNd rfl (ndL_one _ _ _ _ ey.one) ?_); intro w8 s8 B7; have F8 := f7.one s8 (.inr hg7); have ey := ey.no F8; have b3 := b3.no F8; have hM := hM.no F8; have F := F.no F8; have d0 := B7.at_ 0 rfl; have d1 := B7.at_ 1 rfl; have d2 := B7.at_ 2 rfl; have d3 := B7.at_ 3 rfl; have d4 := B7.at_ 4 rfl) | (go_at_call 49; go_must (refine (CS.out vy _ ey).mono ?_); rintro e w9 ⟨rfl, f9⟩; have F := F.no f9))
          go_ret
          exact ⟨rfl, F⟩
    · have hlz : (100 : Int) < (n.size : Int) := by omega
      go_enter Try.func9, Try.ntmps9
      go_wp2_with (first | ((with_reducible refine gate_dst (N := 3) rfl ?_); go_must (refine ev_box rfl 56 _ rfl _ rfl (ndL M.kind M.mode M.data M.target _) rfl ?_); intro g3 w1 hg3 f1 b3; have hM := hM.no f1) | (go_at_call 35; go_must (refine (awake_any _).mono ?_); rintro e w3 ⟨rfl, f3⟩; have b3 := b3.no f3; have hM := hM.no f3; have F := f1.no f3; have c0 := b3.at_ 0 rfl; have c1 := b3.at_ 1 rfl; have c2 := b3.at_ 2 rfl; have c3 := b3.at_ 3 rfl; have c4 := b3.at_ 4 rfl) | (go_at_call 36; refine (CF1.out _ _ hM).mono ?_; rintro e w4 ⟨rfl, f4⟩; have b3 := b3.no f4; have hM := hM.no f4; have F := F.no f4; have c0 := b3.at_ 0 rfl; have c1 := b3.at_ 1 rfl; have c2 := b3.at_ 2 rfl; have c3 := b3.at_ 3 rfl; have c4 := b3.at_ 4 rfl; clear CF1))
      go_ret
      exact ⟨rfl, F⟩
end Go.Proofs.Ytenlokbfjajbbaa.Nd
