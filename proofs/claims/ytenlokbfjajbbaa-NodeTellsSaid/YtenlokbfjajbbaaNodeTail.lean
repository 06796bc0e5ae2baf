/- node.Parse's end: is the node right? No conditions beside those written out. -/
import Derived.Test.YtenlokbfjajbbaaNodeLoop
set_option linter.unusedSimpArgs false
set_option linter.unusedVariables false
namespace Go.Proofs.Ytenlokbfjajbbaa.Nd
open Go Go.RowKit Go.Proofs.YtenlokbfjajbbaaW.PrintWords Go.Proofs.Ytenlokbfjajbbaa.Ev Go.Proofs.Ytenlokbfjajbbaa.Reg Go.Proofs.Ytenlokbfjajbbaa.Sb
set_option maxHeartbeats 4000000 in
set_option maxRecDepth 100000 in
theorem parse_tail (g2 g4 : Nat) (N : Nd) (v : Value) (W : World) (u : Nat → Value) (hE : EntS W v N.ents) (hS : Small N.ents) (hi : In v (fun b => b ≠ g2))
    (b4 : Blk W g4 56 (ndL N.kind N.mode N.data N.target v)) (b2 : Blk W g2 56 (ndL 0 0 ⟨#[]⟩ ⟨#[]⟩ (.slice none 0 0))) (Q : Exit → Act → World → Prop)
    (hQ : ∀ W' v', Fr (One g2) W W' → EntS W' v' (doneN N).1.ents → Blk W' g2 56 (ndL (doneN N).1.kind (doneN N).1.mode (doneN N).1.data (doneN N).1.target v') → ∀ u : Nat → Value, Q .ret { tmps := List.toArray (u 0 :: undef :: .pointer (some ⟨g2, 0, none⟩) :: .int .i64 (doneN N).2 :: u 4 :: u 5 :: u 6 :: u 7 :: u 8 :: u 9 :: u 10 :: u 11 :: u 12 :: u 13 :: u 14 :: u 15 :: u 16 :: u 17 :: u 18 :: u 19 :: u 20 :: u 21 :: u 22 :: u 23 :: u 24 :: u 25 :: u 26 :: u 27 :: u 28 :: u 29 :: u 30 :: u 31 :: u 32 :: u 33 :: u 34 :: u 35 :: u 36 :: u 37 :: u 38 :: u 39 :: u 40 :: u 41 :: u 42 :: u 43 :: u 44 :: u 45 :: u 46 :: u 47 :: u 48 :: u 49 :: u 50 :: u 51 :: u 52 :: u 53 :: u 54 :: u 55 :: u 56 :: u 57 :: u 58 :: u 59 :: u 60 :: u 61 :: u 62 :: u 63 :: u 64 :: u 65 :: u 66 :: u 67 :: u 68 :: u 69 :: u 70 :: u 71 :: u 72 :: u 73 :: u 74 :: u 75 :: u 76 :: u 77 :: u 78 :: u 79 :: u 80 :: u 81 :: u 82 :: u 83 :: u 84 :: u 85 :: []), defers := [] } W') :
    Code.wp Try.prog (sub [1,0,1,1,1,1,1,1] bodyParse) Q { tmps := List.toArray (u 0 :: undef :: .pointer (some ⟨g2, 0, none⟩) :: u 3 :: .pointer (some ⟨g4, 0, none⟩) :: u 5 :: u 6 :: u 7 :: u 8 :: u 9 :: u 10 :: u 11 :: u 12 :: u 13 :: u 14 :: u 15 :: u 16 :: u 17 :: u 18 :: u 19 :: u 20 :: u 21 :: u 22 :: u 23 :: u 24 :: u 25 :: u 26 :: u 27 :: u 28 :: u 29 :: u 30 :: u 31 :: u 32 :: u 33 :: u 34 :: u 35 :: u 36 :: u 37 :: u 38 :: u 39 :: u 40 :: u 41 :: u 42 :: u 43 :: u 44 :: u 45 :: u 46 :: u 47 :: u 48 :: u 49 :: u 50 :: u 51 :: u 52 :: u 53 :: u 54 :: u 55 :: u 56 :: u 57 :: u 58 :: u 59 :: u 60 :: u 61 :: u 62 :: u 63 :: u 64 :: u 65 :: u 66 :: u 67 :: u 68 :: u 69 :: u 70 :: u 71 :: u 72 :: u 73 :: u 74 :: u 75 :: u 76 :: u 77 :: u 78 :: u 79 :: u 80 :: u 81 :: u 82 :: u 83 :: u 84 :: u 85 :: []), defers := [] } W := by
  conv => arg 2; whnf
  obtain ⟨k, m, d, t, es⟩ := N
  have HE := Kp.mk hE
  have HSM := Kp.mk hS
  have HQ := Kp.mk hQ
  clear hE hS hQ
  by_cases hr : rightB ⟨k, m, d, t, es⟩ = true
  · have hf : doneN ⟨k, m, d, t, es⟩ = (⟨k, m, d, t, es⟩, 0) := by simp [doneN, hr]
    rw [hf] at HQ
    have HRT := Kp.mk hr
    clear hr hf
    go_wp2_with (first
      | ((with_reducible refine gate_dst (N := 82) rfl ?_); go_must (refine ev_load_row rfl 56 _ rfl g4 rfl 56 _ b4 _ Try.underlying56 rfl sizeNd ?_))
      | (go_at_call 47; go_must (refine (right_any ⟨k, m, d, t, es⟩ v _ HE.out HSM.out).mono ?_); rintro e w7 ⟨rfl, f7⟩; rw [HRT.out])
      | ((with_reducible refine gate_dst (N := 84) rfl ?_); go_must (refine ev_load_row rfl 56 _ rfl g4 rfl 56 _ (b4.no f7) _ Try.underlying56 rfl sizeNd ?_))
      | ((with_reducible refine gate_store (t := 56) (p := 2) rfl ?_); go_must (refine ev_store_row rfl 56 _ _ rfl g2 (ndL k m d t v).toArray rfl rfl 56 _ (b2.no f7) sizeNd rfl (ndL_one _ _ _ _ HE.out.one) ?_); intro w8 f8 b8))
    exact K_u (HQ.out w8 v (((Fr.refl _ W).no f7).trans f8 (fun i h => .inl h)) ((HE.out.no f7).kept f8 hi (fun b hb hh => hb hh)) b8) rfl
  · have hr : rightB ⟨k, m, d, t, es⟩ = false := by simpa using hr
    have hf : doneN ⟨k, m, d, t, es⟩ = (zeroN, 2) := by simp [doneN, hr]
    rw [hf] at HQ
    have HRT := Kp.mk hr
    clear hr hf
    go_wp2_with (first
      | ((with_reducible refine gate_dst (N := 82) rfl ?_); go_must (refine ev_load_row rfl 56 _ rfl g4 rfl 56 _ b4 _ Try.underlying56 rfl sizeNd ?_))
      | (go_at_call 47; go_must (refine (right_any ⟨k, m, d, t, es⟩ v _ HE.out HSM.out).mono ?_); rintro e w7 ⟨rfl, f7⟩; rw [HRT.out]))
    refine wp_label ?_
    go_wp2_with ((with_reducible refine gate_store (t := 56) (p := 2) rfl ?_); go_must (refine ev_store_row rfl 56 _ _ rfl g2 (ndL 0 0 ⟨#[]⟩ ⟨#[]⟩ (.slice none 0 0)).toArray rfl rfl 56 _ (b2.no f7) sizeNd rfl (ndL_one _ _ _ _ rfl) ?_); intro w8 f8 b8)
    exact K_u (HQ.out w8 (.slice none 0 0) (((Fr.refl _ W).no f7).trans f8 (fun i h => .inl h)) (EntS.nil _) b8) rfl
end Go.Proofs.Ytenlokbfjajbbaa.Nd
