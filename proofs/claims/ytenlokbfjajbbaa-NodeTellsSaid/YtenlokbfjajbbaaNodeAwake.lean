/- The law's awake: it says yes. No conditions. -/
import Derived.Test.YtenlokbfjajbbaaNodeJoin
import Derived.Test.YtenlokbfjajbbaaNodeSame
import Derived.Test.YtenlokbfjajbbaaNodeLaws
set_option linter.unusedSimpArgs false
set_option linter.unusedVariables false
namespace Go.Proofs.Ytenlokbfjajbbaa.Nd
open Go Go.RowKit Go.Proofs.YtenlokbfjajbbaaW.PrintWords Go.Proofs.Ytenlokbfjajbbaa.Ev Go.Proofs.Ytenlokbfjajbbaa.Reg Go.Proofs.Ytenlokbfjajbbaa.Sb

def nX : Nd := ⟨2, 493, ⟨#[]⟩, ⟨#[]⟩, []⟩
def nY : Nd := ⟨2, 493, ⟨#[]⟩, ⟨#[]⟩, [(⟨#[97]⟩, 2)]⟩
theorem aw1 : withN nX ⟨#[97]⟩ 2 = (nY, 0) := by
  have h : nameB ⟨#[97]⟩ = true := by decide +kernel
  simp only [withN, h]
  rfl
theorem aw2 : printN nY = (⟨#[2, 1, 237, 1, 97, 0, 0, 0, 2]⟩, 0) := by
  have h : rightB nY = true := by decide +kernel
  rw [printN, if_pos h]
  rfl
theorem aw3 : parseN [2, 1, 237, 1, 97, 0, 0, 0, 2] = (nY, 0) := by
  have h : rightB nY = true := by decide +kernel
  have := parse_print h
  rw [← this]
  congr 1
theorem aw4 : findN nY ⟨#[97]⟩ = (2, true) := by decide +kernel
theorem aw5 : withoutN nY ⟨#[97]⟩ = (nX, 0) := by
  have h : (findN nY ⟨#[97]⟩).2 = true := by rw [aw4]
  have h2 : nY.ents.eraseP (isNm ⟨#[97]⟩) = [] := by decide +kernel
  simp only [withoutN, h]
  rw [h2]
  rfl
theorem aw6 : withN nY ⟨#[97]⟩ 3 = (zeroN, 5) := by
  have h : (findN nY ⟨#[97]⟩).2 = true := by rw [aw4]
  have h2 : nameB ⟨#[97]⟩ = true := by decide +kernel
  simp only [withN, h, h2]
  rfl
theorem aw7 : rightB nX = true := by decide +kernel
theorem aw8 : rightB zeroN = false := by decide +kernel
theorem smallY : Small nY.ents := fun e he => by
  simp only [nY, List.mem_singleton] at he
  subst he
  decide

set_option maxHeartbeats 4000000 in
set_option maxRecDepth 100000 in
theorem awake_any (W : World) : Calls Try.prog 35 #[] W fun e w' => e = .returned (.bool true) ∧ Fr No W w' := by
  have cW : ∀ W, Calls Try.prog 43 #[ndV nX (.slice none 0 0), .string ⟨#[97]⟩, .int .i64 2] W fun e w' => Gives W nY 0 e w' := fun W => by
    have h := with_any nX (.slice none 0 0) ⟨#[97]⟩ 2 W (EntS.nil _) (by decide) (by decide)
    rw [aw1] at h
    exact h
  have cP : ∀ v W, EntS W v nY.ents → Calls Try.prog 37 #[ndV nY v] W fun e w' => e = .returned (.tuple #[.string ⟨#[2, 1, 237, 1, 97, 0, 0, 0, 2]⟩, .int .i64 0]) ∧ Fr No W w' := fun v W h => by
    have h := print_any nY v W h smallY (by decide) (by decide)
    rw [aw2] at h
    exact h
  have cA : ∀ W, Calls Try.prog 39 #[.string ⟨#[2, 1, 237, 1, 97, 0, 0, 0, 2]⟩] W fun e w' => Gives W nY 0 e w' := fun W => by
    have h := parse_any [2, 1, 237, 1, 97, 0, 0, 0, 2] W (by decide)
    rw [aw3] at h
    exact h
  have cF : ∀ v W, EntS W v nY.ents → Calls Try.prog 41 #[ndV nY v, .string ⟨#[97]⟩] W fun e w' => e = .returned (.tuple #[.int .i64 2, .bool true]) ∧ Fr No W w' := fun v W h => by
    have h := find_any nY v ⟨#[97]⟩ W h
    rw [aw4] at h
    exact h
  have cO : ∀ v W, EntS W v nY.ents → Calls Try.prog 45 #[ndV nY v, .string ⟨#[97]⟩] W fun e w' => Gives W nX 0 e w' := fun v W h => by
    have h := without_any nY v ⟨#[97]⟩ W h (by decide)
    rw [aw5] at h
    exact h
  have cW2 : ∀ v W, EntS W v nY.ents → Calls Try.prog 43 #[ndV nY v, .string ⟨#[97]⟩, .int .i64 3] W fun e w' => Gives W zeroN 5 e w' := fun v W h => by
    have h := with_any nY v ⟨#[97]⟩ 3 W h (by decide) (by decide)
    rw [aw6] at h
    exact h
  have cR : ∀ W, Calls Try.prog 47 #[ndV nX (.slice none 0 0)] W fun e w' => e = .returned (.bool true) ∧ Fr No W w' := fun W => by
    have h := right_any nX (.slice none 0 0) W (EntS.nil _) (fun _ h => by cases h)
    rw [aw7] at h
    exact h
  have cR2 : ∀ W, Calls Try.prog 47 #[ndV zeroN (.slice none 0 0)] W fun e w' => e = .returned (.bool false) ∧ Fr No W w' := fun W => by
    have h := right_any zeroN (.slice none 0 0) W (EntS.nil _) (fun _ h => by cases h)
    rw [aw8] at h
    exact h
  have cS : ∀ N u v W, EntS W u N.ents → EntS W v N.ents → Calls Try.prog 49 #[ndV N u, ndV N v] W fun e w' => e = .returned (.bool true) ∧ Fr No W w' := fun N u v W h1 h2 => by
    have h := same_any N N u v W h1 h2
    rw [same_refl] at h
    exact h
  go_enter Try.func35, Try.ntmps35
  go_wp2_with (first
    | ((with_reducible refine gate_dst (N := 1) rfl ?_); go_must (refine ev_alloc rfl 56 rfl _ (ndL 0 0 ⟨#[]⟩ ⟨#[]⟩ (.slice none 0 0)) zeroNd rfl ?_); intro g1 w1 hg1 f1 b1)
    | ((with_reducible refine gate_store (t := 56) (p := 1) rfl ?_); go_must (refine ev_store_row rfl 56 _ _ rfl g1 (ndL 2 493 ⟨#[]⟩ ⟨#[]⟩ (.slice none 0 0)).toArray rfl rfl 56 _ b1 sizeNd rfl (ndL_one _ _ _ _ rfl) ?_); intro w2 s1 B1; have F1 := f1.one s1 (.inr hg1); clear f1 s1 b1)
    | ((with_reducible refine gate_dst (N := 16) rfl ?_); go_must (refine ev_load_row rfl 56 _ rfl g1 rfl 56 _ B1 _ Try.underlying56 rfl sizeNd ?_))
    | ((with_reducible refine gate_dst (N := 21) rfl ?_); go_must (refine ev_load_row rfl 56 _ rfl g2 rfl 56 _ B2 _ Try.underlying56 rfl sizeNd ?_))
    | ((with_reducible refine gate_dst (N := 31) rfl ?_); go_must (refine ev_load_row rfl 56 _ rfl g6 rfl 56 _ B6 _ Try.underlying56 rfl sizeNd ?_))
    | ((with_reducible refine gate_dst (N := 36) rfl ?_); go_must (refine ev_load_row rfl 56 _ rfl g6 rfl 56 _ B6 _ Try.underlying56 rfl sizeNd ?_))
    | ((with_reducible refine gate_dst (N := 41) rfl ?_); go_must (refine ev_load_row rfl 56 _ rfl g2 rfl 56 _ B2 _ Try.underlying56 rfl sizeNd ?_))
    | (go_at_call 43; refine (cW _).mono ?_; rintro e w3 ⟨v2, rfl, e2, f2⟩; have B1 := B1.no f2; have F1 := F1.no f2; clear cW)
    | ((with_reducible refine gate_dst (N := 2) rfl ?_); go_must (refine ev_alloc rfl 56 rfl _ (ndL 0 0 ⟨#[]⟩ ⟨#[]⟩ (.slice none 0 0)) zeroNd rfl ?_); intro g2 w4 hg2 f3 b2)
    | ((with_reducible refine gate_store (t := 56) (p := 2) rfl ?_); go_must (refine ev_store_row rfl 56 _ _ rfl g2 (ndL 2 493 ⟨#[]⟩ ⟨#[]⟩ v2).toArray rfl rfl 56 _ b2 sizeNd rfl (ndL_one _ _ _ _ e2.one) ?_); intro w5 s2 B2; have F := f3.one s2 (.inr hg2); have E2 := e2.no F; have B1 := B1.no F; have F1 := F1.no F; clear f3 s2 b2 F)
    | (go_at_call 37; go_must (refine (cP v2 _ E2).mono ?_); rintro e w6 ⟨rfl, f4⟩; have B1 := B1.no f4; have B2 := B2.no f4; have E2 := E2.no f4; have F1 := F1.no f4; clear cP)
    | (go_at_call 39; go_must (refine (cA _).mono ?_); rintro e w7 ⟨v6, rfl, e6, f5⟩; have B1 := B1.no f5; have B2 := B2.no f5; have E2 := E2.no f5; have F1 := F1.no f5; clear cA)
    | ((with_reducible refine gate_dst (N := 6) rfl ?_); go_must (refine ev_alloc rfl 56 rfl _ (ndL 0 0 ⟨#[]⟩ ⟨#[]⟩ (.slice none 0 0)) zeroNd rfl ?_); intro g6 w8 hg6 f6 b6)
    | ((with_reducible refine gate_store (t := 56) (p := 6) rfl ?_); go_must (refine ev_store_row rfl 56 _ _ rfl g6 (ndL 2 493 ⟨#[]⟩ ⟨#[]⟩ v6).toArray rfl rfl 56 _ b6 sizeNd rfl (ndL_one _ _ _ _ e6.one) ?_); intro w9 s6 B6; have F := f6.one s6 (.inr hg6); have E6 := e6.no F; have E2 := E2.no F; have B1 := B1.no F; have B2 := B2.no F; have F1 := F1.no F; clear f6 s6 b6 F)
    | (go_at_call 41; go_must (refine (cF v6 _ E6).mono ?_); rintro e w10 ⟨rfl, f7⟩; have B1 := B1.no f7; have B2 := B2.no f7; have B6 := B6.no f7; have E2 := E2.no f7; have E6 := E6.no f7; have F1 := F1.no f7; clear cF)
    | (go_at_call 45; go_must (refine (cO v6 _ E6).mono ?_); rintro e w11 ⟨v10, rfl, e10, f8⟩; have B1 := B1.no f8; have B2 := B2.no f8; have B6 := B6.no f8; have E2 := E2.no f8; have E6 := E6.no f8; have F1 := F1.no f8; clear cO)
    | ((with_reducible refine gate_dst (N := 10) rfl ?_); go_must (refine ev_alloc rfl 56 rfl _ (ndL 0 0 ⟨#[]⟩ ⟨#[]⟩ (.slice none 0 0)) zeroNd rfl ?_); intro g10 w12 hg10 f10 b10)
    | ((with_reducible refine gate_store (t := 56) (p := 10) rfl ?_); go_must (refine ev_store_row rfl 56 _ _ rfl g10 (ndL 2 493 ⟨#[]⟩ ⟨#[]⟩ v10).toArray rfl rfl 56 _ b10 sizeNd rfl (ndL_one _ _ _ _ e10.one) ?_); intro w13 s10 B10; have F := f10.one s10 (.inr hg10); have E10 := e10.no F; have E6 := E6.no F; have E2 := E2.no F; have B1 := B1.no F; have B2 := B2.no F; have B6 := B6.no F; have F1 := F1.no F; clear f10 s10 b10 F)
    | (go_at_call 43; go_must (refine (cW2 v2 _ E2).mono ?_); rintro e w14 ⟨v12, rfl, e12, f11⟩; have B1 := B1.no f11; have B2 := B2.no f11; have B6 := B6.no f11; have B10 := B10.no f11; have E2 := E2.no f11; have E6 := E6.no f11; have E10 := E10.no f11; have F1 := F1.no f11; clear cW2)
    | ((with_reducible refine gate_dst (N := 12) rfl ?_); go_must (refine ev_alloc rfl 56 rfl _ (ndL 0 0 ⟨#[]⟩ ⟨#[]⟩ (.slice none 0 0)) zeroNd rfl ?_); intro g12 w15 hg12 f12 b12)
    | ((with_reducible refine gate_store (t := 56) (p := 12) rfl ?_); go_must (refine ev_store_row rfl 56 _ _ rfl g12 (ndL 0 0 ⟨#[]⟩ ⟨#[]⟩ v12).toArray rfl rfl 56 _ b12 sizeNd rfl (ndL_one _ _ _ _ e12.one) ?_); intro w16 s12 B12; have F := f12.one s12 (.inr hg12); have E10 := E10.no F; have E6 := E6.no F; have E2 := E2.no F; have B1 := B1.no F; have B2 := B2.no F; have B6 := B6.no F; have B10 := B10.no F; have F1 := F1.no F; clear f12 s12 b12 F; have p0 := B2.at_ 0 rfl; have p1 := B2.at_ 1 rfl; have p2 := B2.at_ 2 rfl; have p3 := B2.at_ 3 rfl; have p4 := B2.at_ 4 rfl; have q0 := B6.at_ 0 rfl; have q1 := B6.at_ 1 rfl; have q2 := B6.at_ 2 rfl; have q3 := B6.at_ 3 rfl; have q4 := B6.at_ 4 rfl)
    | (go_at_call 49; refine (cS nY v2 v6 _ E2 E6).mono ?_; rintro e w17 ⟨rfl, f13⟩; have B1 := B1.no f13; have B10 := B10.no f13; have E10 := E10.no f13; have F1 := F1.no f13; clear E2; have p0 := B10.at_ 0 rfl; have p1 := B10.at_ 1 rfl; have p2 := B10.at_ 2 rfl; have p3 := B10.at_ 3 rfl; have p4 := B10.at_ 4 rfl; have q0 := B1.at_ 0 rfl; have q1 := B1.at_ 1 rfl; have q2 := B1.at_ 2 rfl; have q3 := B1.at_ 3 rfl; have q4 := B1.at_ 4 rfl)
    | (go_at_call 49; go_must (refine (cS nX v10 (.slice none 0 0) _ E10 (EntS.nil _)).mono ?_); rintro e w18 ⟨rfl, f14⟩; have B1 := B1.no f14; have F1 := F1.no f14; clear E10; have q0 := B1.at_ 0 rfl; have q1 := B1.at_ 1 rfl; have q2 := B1.at_ 2 rfl; have q3 := B1.at_ 3 rfl; have q4 := B1.at_ 4 rfl)
    | (go_at_call 47; refine (cR _).mono ?_; rintro e w19 ⟨rfl, f15⟩; have F1 := F1.no f15; clear cR)
    | (go_at_call 47; go_must (refine (cR2 _).mono ?_); rintro e w20 ⟨rfl, f16⟩; have F1 := F1.no f16; clear cR2))
  go_ret
  exact ⟨rfl, F1⟩
end Go.Proofs.Ytenlokbfjajbbaa.Nd
