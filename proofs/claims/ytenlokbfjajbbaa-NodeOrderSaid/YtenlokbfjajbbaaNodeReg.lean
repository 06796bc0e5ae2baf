/- NodeOrder's two calls of node.With. No conditions beside those written out. -/
import Derived.Test.YtenlokbfjajbbaaNodeAwake
import Derived.Test.YtenlokbfjajbbaaNodeEnt
import Derived.Test.YtenlokbfjajbbaaEv3
set_option linter.unusedSimpArgs false
set_option linter.unusedVariables false
namespace Go.Proofs.Ytenlokbfjajbbaa.Nd
open Go Go.RowKit Go.Proofs.YtenlokbfjajbbaaW.PrintWords Go.Proofs.YtenlokbfjajbbaaW.PrintLast Go.Proofs.Ytenlokbfjajbbaa.Ev Go.Proofs.Ytenlokbfjajbbaa.Reg Go.Proofs.Ytenlokbfjajbbaa.Sb
noncomputable def bodyOrder : Code := Try.f10.body.getD .skip
/-- A row of entries stays as it is where a node's own cells are written. -/
theorem EntS.oneN {w w' : World} {v x : Value} {es : List Ent} {g : Nat} {t : TypeId} {k m : Int} {d s : ByteArray} (h : EntS w v es) (hx : ∀ z, x ≠ .int .i64 z) (b : Blk w g t (ndL k m d s x)) (f : Fr (One g) w w') : EntS w' v es := by
  obtain ⟨A, c, rfl, h1, h2, h3⟩ := h.out
  by_cases h0 : 0 < es.length
  · obtain ⟨bb, o, rfl, hb, hc⟩ := h3 h0
    refine h.keep f (fun b' _ ⟨o', n', c', e⟩ hh => ?_)
    cases e
    have hbg : bb = g := hh
    subst hbg
    obtain ⟨c0, c1⟩ := hc 0 h0
    rw [b.cell] at c0 c1
    match o, c0, c1 with
    | 0, c0, c1 => simp [ndL] at c0
    | 1, c0, c1 => simp [ndL] at c0
    | 2, c0, c1 => simp [ndL] at c1
    | 3, c0, c1 => simp [ndL] at c1; exact hx _ c1
    | 4, c0, c1 => simp [ndL] at c1
    | n + 5, c0, c1 => simp [ndL] at c0
  · exact ⟨⟨A, c, rfl, h1, h2, fun hp => absurd hp h0⟩⟩
theorem EntS.noInt {w : World} {v : Value} {es : List Ent} (h : EntS w v es) : ∀ z, v ≠ .int .i64 z := by
  obtain ⟨A, c, rfl, _⟩ := h.out
  intro z h
  cases h

set_option maxHeartbeats 8000000 in
set_option maxRecDepth 100000 in
theorem order_reg16 (b o c i n g g' : Nat) (a : Nd) (va v1 : Value) (y : ByteArray) (R : Nd × Int) (W : World) (u : Nat → Value) (hi : i < n) (hn : n ≤ 30) (B : Blk W g 56 (ndL a.kind a.mode a.data a.target va)) (ha : EntS W va a.ents)
    (l1 : W.cell? ⟨b, o + i, none⟩ = some (.string y)) (CW : Kp (∀ W, EntS W va a.ents → Calls Try.prog 43 #[ndV a va, .string y, .int .i64 ((i : Int) + 1)] W fun e w' => Gives W R.1 R.2 e w')) (Q : Exit → Act → World → Prop)
    (hQ : ∀ (u : Nat → Value) g9 v9 ws, W.heap.size ≤ g9 → Fr No W ws → Blk ws g9 56 (ndL R.1.kind R.1.mode R.1.data R.1.target v9) → EntS ws v9 R.1.ents → Q .normal { tmps := List.toArray (.slice (some ⟨b, o, none⟩) n c :: v1 :: u 2 :: u 3 :: u 4 :: .pointer (some ⟨g, 0, none⟩) :: .pointer (some ⟨g', 0, none⟩) :: .int .i64 (i : Int) :: u 8 :: .pointer (some ⟨g9, 0, none⟩) :: .int .i64 R.2 :: u 11 :: u 12 :: u 13 :: u 14 :: u 15 :: u 16 :: u 17 :: u 18 :: u 19 :: u 20 :: u 21 :: u 22 :: u 23 :: u 24 :: u 25 :: u 26 :: u 27 :: u 28 :: u 29 :: u 30 :: u 31 :: u 32 :: u 33 :: u 34 :: u 35 :: u 36 :: u 37 :: u 38 :: u 39 :: u 40 :: u 41 :: u 42 :: u 43 :: u 44 :: u 45 :: u 46 :: u 47 :: u 48 :: u 49 :: u 50 :: u 51 :: u 52 :: u 53 :: u 54 :: u 55 :: u 56 :: u 57 :: u 58 :: u 59 :: u 60 :: u 61 :: u 62 :: u 63 :: u 64 :: u 65 :: u 66 :: u 67 :: u 68 :: u 69 :: u 70 :: u 71 :: u 72 :: u 73 :: u 74 :: u 75 :: u 76 :: u 77 :: u 78 :: u 79 :: u 80 :: u 81 :: u 82 :: u 83 :: u 84 :: u 85 :: u 86 :: u 87 :: u 88 :: u 89 :: u 90 :: u 91 :: u 92 :: u 93 :: u 94 :: u 95 :: u 96 :: u 97 :: u 98 :: u 99 :: u 100 :: u 101 :: u 102 :: u 103 :: u 104 :: u 105 :: u 106 :: u 107 :: u 108 :: u 109 :: u 110 :: u 111 :: u 112 :: u 113 :: u 114 :: u 115 :: u 116 :: u 117 :: u 118 :: u 119 :: u 120 :: u 121 :: u 122 :: u 123 :: u 124 :: u 125 :: u 126 :: u 127 :: u 128 :: u 129 :: u 130 :: u 131 :: u 132 :: u 133 :: u 134 :: u 135 :: u 136 :: []), defers := [] } ws) :
    Code.wp Try.prog (sub [1, 1, 1, 1, 0, 1, 0, 0, 1, 0, 0, 1, 1, 0] bodyOrder) Q { tmps := List.toArray (.slice (some ⟨b, o, none⟩) n c :: v1 :: u 2 :: u 3 :: u 4 :: .pointer (some ⟨g, 0, none⟩) :: .pointer (some ⟨g', 0, none⟩) :: .int .i64 (i : Int) :: u 8 :: u 9 :: u 10 :: u 11 :: u 12 :: u 13 :: u 14 :: u 15 :: u 16 :: u 17 :: u 18 :: u 19 :: u 20 :: u 21 :: u 22 :: u 23 :: u 24 :: u 25 :: u 26 :: u 27 :: u 28 :: u 29 :: u 30 :: u 31 :: u 32 :: u 33 :: u 34 :: u 35 :: u 36 :: u 37 :: u 38 :: u 39 :: u 40 :: u 41 :: u 42 :: u 43 :: u 44 :: u 45 :: u 46 :: u 47 :: u 48 :: u 49 :: u 50 :: u 51 :: u 52 :: u 53 :: u 54 :: u 55 :: u 56 :: u 57 :: u 58 :: u 59 :: u 60 :: u 61 :: u 62 :: u 63 :: u 64 :: u 65 :: u 66 :: u 67 :: u 68 :: u 69 :: u 70 :: u 71 :: u 72 :: u 73 :: u 74 :: u 75 :: u 76 :: u 77 :: u 78 :: u 79 :: u 80 :: u 81 :: u 82 :: u 83 :: u 84 :: u 85 :: u 86 :: u 87 :: u 88 :: u 89 :: u 90 :: u 91 :: u 92 :: u 93 :: u 94 :: u 95 :: u 96 :: u 97 :: u 98 :: u 99 :: u 100 :: u 101 :: u 102 :: u 103 :: u 104 :: u 105 :: u 106 :: u 107 :: u 108 :: u 109 :: u 110 :: u 111 :: u 112 :: u 113 :: u 114 :: u 115 :: u 116 :: u 117 :: u 118 :: u 119 :: u 120 :: u 121 :: u 122 :: u 123 :: u 124 :: u 125 :: u 126 :: u 127 :: u 128 :: u 129 :: u 130 :: u 131 :: u 132 :: u 133 :: u 134 :: u 135 :: u 136 :: []), defers := [] } W := by
  conv => arg 2; whnf
  have hiz : (i : Int) < (n : Int) := by omega
  have k2 : (0 : Int) ≤ (i : Int) := by omega
  have k3 : (i : Int) ≤ 30 := by omega
  have hkw : IntKind.i64.wrap ((i : Int) + 1) = (i : Int) + 1 := by rw [IntKind.wrap_i64]; omega
  have fd := (Fr.refl No W).drew
  have HQ := Kp.mk hQ
  clear hi hn hQ
  refine region_join (τ := Nat × Value) (fun (u : Nat → Value) t => [(9, .pointer (some ⟨t.1, 0, none⟩)), (10, .int .i64 R.2), (52, u 52), (53, u 53), (54, u 54), (55, u 55), (56, u 56), (57, u 57), (58, u 58), (59, u 59), (60, u 60), (61, u 61), (62, u 62)]) (fun t ws => W.heap.size ≤ t.1 ∧ Fr No W ws ∧ Blk ws t.1 56 (ndL R.1.kind R.1.mode R.1.data R.1.target t.2) ∧ EntS ws t.2 R.1.ents) ?_ ?_
  rotate_left
  · rintro u' ⟨g9, v9⟩ ws ⟨q1, q2, q3, q4⟩
    simp only [putAll, Act.put, List.setIfInBounds_toArray, List.set_cons_zero, List.set_cons_succ]
    exact K_u (K := Q .normal) (fun u => HQ.out u g9 v9 ws q1 q2 q3 q4) rfl
  refine start_ (n := 14) (S := (fun w' => Blk w' g 56 (ndL a.kind a.mode a.data a.target va) ∧ w'.cell? ⟨b, o + i, none⟩ = some (.string y) ∧ EntS w' va a.ents ∧ Fr No W w')) (ds := [12]) #[false, false, false, false, false, false, false, false, false, false, false, false, false, false] (by kernel_rfl) rfl rfl ⟨B.no fd, Fr.cell l1 fd (fun h => h), ha.no fd, fd⟩ (fun hHeld => ?_)
  refine pure_ (i := 1) (N := some 54) (v := ?_) (a' := ?_) #[false, true, false, false, false, false, false, false, false, false, false, false, false, false] rfl rfl (by kernel_rfl) (fun _ _ _ h => h.pan) (Or.inl ⟨by rfl, ?_⟩) ?_ ?_
  rotate_left
  · intro w'; go_simp; with_reducible rfl
  rotate_left
  · simp only [Act.put, List.setIfInBounds_toArray, List.set_cons_zero, List.set_cons_succ]; rfl
  refine pure_ (i := 2) (N := some 55) (v := ?_) (a' := ?_) #[false, true, true, false, false, false, false, false, false, false, false, false, false, false] rfl rfl (by kernel_rfl) (fun _ _ _ h => h.pan) (Or.inl ⟨by rfl, ?_⟩) ?_ ?_
  rotate_left
  · intro w'; go_simp; with_reducible rfl
  rotate_left
  · simp only [Act.put, List.setIfInBounds_toArray, List.set_cons_zero, List.set_cons_succ]; rfl
  refine pure_ (i := 3) (N := some 56) (v := ?_) (a' := ?_) #[false, true, true, true, false, false, false, false, false, false, false, false, false, false] rfl rfl (by kernel_rfl) (fun _ _ _ h => h.pan) (Or.inl ⟨by rfl, ?_⟩) ?_ ?_
  rotate_left
  · intro w'; go_simp; with_reducible rfl
  rotate_left
  · simp only [Act.put, List.setIfInBounds_toArray, List.set_cons_zero, List.set_cons_succ]; rfl
  refine pure_ (i := 5) (N := some 58) (v := ?_) (a' := ?_) #[false, true, true, true, false, true, false, false, false, false, false, false, false, false] rfl rfl (by kernel_rfl) (fun _ _ _ h => h.pan) (Or.inl ⟨by rfl, ?_⟩) ?_ ?_
  rotate_left
  · intro w'; go_simp; with_reducible rfl
  rotate_left
  · simp only [Act.put, List.setIfInBounds_toArray, List.set_cons_zero, List.set_cons_succ]; rfl
  refine pure_ (i := 6) (N := some 59) (v := ?_) (a' := ?_) #[false, true, true, true, false, true, true, false, false, false, false, false, false, false] rfl rfl (by kernel_rfl) (fun _ _ _ h => h.pan) (Or.inl ⟨by rfl, ?_⟩) ?_ ?_
  rotate_left
  · intro w'; go_simp; with_reducible rfl
  rotate_left
  · simp only [Act.put, List.setIfInBounds_toArray, List.set_cons_zero, List.set_cons_succ]; rfl
  refine take_ (i := 0) (N := some 53) (v := ?_) (a' := ?_) #[true, true, true, true, false, true, true, false, false, false, false, false, false, false] rfl rfl (by kernel_rfl) (fun _ _ _ h => h.pan) (Or.inl ⟨by rfl, ?_⟩) hHeld ?_ ?_
  rotate_left
  · rintro w' ⟨s0, s1, s2, s3⟩; have c0 := s0.at_ 0 rfl; have c1 := s0.at_ 1 rfl; have c2 := s0.at_ 2 rfl; have c3 := s0.at_ 3 rfl; have c4 := s0.at_ 4 rfl; go_simp; with_reducible rfl
  rotate_left
  · simp only [Act.put, List.setIfInBounds_toArray, List.set_cons_zero, List.set_cons_succ]; rfl
  refine take_ (i := 4) (N := some 57) (v := ?_) (a' := ?_) #[true, true, true, true, true, true, true, false, false, false, false, false, false, false] rfl rfl (by kernel_rfl) (fun _ _ _ h => h.pan) (Or.inl ⟨by rfl, ?_⟩) hHeld ?_ ?_
  rotate_left
  · rintro w' ⟨s0, s1, s2, s3⟩; have c0 := s0.at_ 0 rfl; have c1 := s0.at_ 1 rfl; have c2 := s0.at_ 2 rfl; have c3 := s0.at_ 3 rfl; have c4 := s0.at_ 4 rfl; go_simp; with_reducible rfl
  rotate_left
  · simp only [Act.put, List.setIfInBounds_toArray, List.set_cons_zero, List.set_cons_succ]; rfl
  refine two_ (i := 7) (j := 11) (Ni := some 60) (Nj := some 9) #[true, true, true, true, true, true, true, true, false, false, false, false, false, false] #[true, true, true, true, true, true, true, false, false, false, false, true, false, false] rfl rfl rfl rfl (by kernel_rfl) (by decide) (by decide) (fun K hK => ?_) (fun K hK => ?_)
  · refine goes_ Try.func43 (by kernel_rfl) rfl #[ndV a va, .string y, .int .i64 ((i : Int) + 1)] (by rfl) rfl rfl (by simp only [List.map_toArray, List.map_cons, List.map_nil]; rfl) ?_; refine (CW.out _ hHeld.2.2.1).mono ?_; rintro e wq ⟨v9, rfl, e9, f9⟩; refine ⟨_, rfl, hK.out _ _ ⟨hHeld.1.no f9, Fr.cell hHeld.2.1 f9 (fun h => h), hHeld.2.2.1.no f9, hHeld.2.2.2.no f9⟩ (fun hHeld => ?_)⟩
    clear hK K
    refine norm_ (a' := ?_) ?_ ?_
    rotate_left
    · simp only [Act.put, List.setIfInBounds_toArray, List.set_cons_zero, List.set_cons_succ]; rfl
    refine pure_ (i := 8) (N := some 52) (v := ?_) (a' := ?_) #[true, true, true, true, true, true, true, true, true, false, false, false, false, false] rfl rfl (by kernel_rfl) (fun _ _ _ h => h.pan) (Or.inl ⟨by rfl, ?_⟩) ?_ ?_
    rotate_left
    · intro w'; go_simp; with_reducible rfl
    rotate_left
    · simp only [Act.put, List.setIfInBounds_toArray, List.set_cons_zero, List.set_cons_succ]; rfl
    refine pure_ (i := 9) (N := some 61) (v := ?_) (a' := ?_) #[true, true, true, true, true, true, true, true, true, true, false, false, false, false] rfl rfl (by kernel_rfl) (fun _ _ _ h => h.pan) (Or.inl ⟨by rfl, ?_⟩) ?_ ?_
    rotate_left
    · intro w'; go_simp; with_reducible rfl
    rotate_left
    · simp only [Act.put, List.setIfInBounds_toArray, List.set_cons_zero, List.set_cons_succ]; rfl
    refine pure_ (i := 10) (N := some 62) (v := ?_) (a' := ?_) #[true, true, true, true, true, true, true, true, true, true, true, false, false, false] rfl rfl (by kernel_rfl) (fun _ _ _ h => h.pan) (Or.inl ⟨by rfl, ?_⟩) ?_ ?_
    rotate_left
    · intro w'; go_simp; with_reducible rfl
    rotate_left
    · simp only [Act.put, List.setIfInBounds_toArray, List.set_cons_zero, List.set_cons_succ]; rfl
    refine one_ (i := 11) (N := some 9) #[true, true, true, true, true, true, true, true, true, true, true, true, false, false] rfl rfl (by kernel_rfl) (by decide) (fun K hK => ?_)
    (first | refine step_alloc (N := some 9) rfl rfl 56 rfl _ (ndL 0 0 ⟨#[]⟩ ⟨#[]⟩ (.slice none 0 0)) zeroNd rfl ?_ | refine step_alloc (N := some 12) rfl rfl 56 rfl _ (ndL 0 0 ⟨#[]⟩ ⟨#[]⟩ (.slice none 0 0)) zeroNd rfl ?_); intro g9 wp hg9 fp bp; have hg9 := Nat.le_trans hHeld.2.2.2.size hg9; refine hK.out _ _ ⟨hHeld.1.no fp, Fr.cell hHeld.2.1 fp (fun h => h), hHeld.2.2.1.no fp, hHeld.2.2.2.no fp⟩ (fun hHeld => ?_)
    clear hK K
    refine norm_ (a' := ?_) ?_ ?_
    rotate_left
    · simp only [Act.put, List.setIfInBounds_toArray, List.set_cons_zero, List.set_cons_succ]; rfl
    refine last_ (i := 12) (N := none) #[true, true, true, true, true, true, true, true, true, true, true, true, true, false] rfl rfl (by kernel_rfl) (by decide) (fun K hK => ?_)
    refine step_store_row rfl rfl 56 _ _ rfl g9 (ndL R.1.kind R.1.mode R.1.data R.1.target v9).toArray rfl rfl 56 (ndL 0 0 ⟨#[]⟩ ⟨#[]⟩ (.slice none 0 0)) (by first | exact bp | exact bp.no f9) sizeNd rfl (ndL_one _ _ _ _ e9.one) ?_; intro ws fs bs'; refine hK.out _ _ ?_
    clear hK K
    refine norm_ (a' := ?_) ?_ ?_
    rotate_left
    · simp only [Act.put, List.setIfInBounds_toArray, List.set_cons_zero, List.set_cons_succ]; rfl
    refine pure_ (i := 13) (N := some 10) (v := ?_) (a' := ?_) #[true, true, true, true, true, true, true, true, true, true, true, true, true, true] rfl rfl (by kernel_rfl) (fun _ _ _ h => h.pan) (Or.inl ⟨by rfl, ?_⟩) ?_ ?_
    rotate_left
    · intro w'; go_simp; with_reducible rfl
    rotate_left
    · simp only [Act.put, List.setIfInBounds_toArray, List.set_cons_zero, List.set_cons_succ]; rfl
    refine done_ (by kernel_rfl) ?_
    refine join_fin (g9, v9) ?_ ?_; exact ⟨hg9, hHeld.2.2.2.one fs (.inr hg9), bs', by first | exact EntS.oneN (e9.no fp) (fun z h => by cases h) bp fs | exact EntS.oneN e9 (fun z h => by cases h) (bp.no f9) fs⟩; (simp only [putAll, Act.put, List.setIfInBounds_toArray, List.set_cons_zero, List.set_cons_succ]; rfl)
  · (first | refine step_alloc (N := some 9) rfl rfl 56 rfl _ (ndL 0 0 ⟨#[]⟩ ⟨#[]⟩ (.slice none 0 0)) zeroNd rfl ?_ | refine step_alloc (N := some 12) rfl rfl 56 rfl _ (ndL 0 0 ⟨#[]⟩ ⟨#[]⟩ (.slice none 0 0)) zeroNd rfl ?_); intro g9 wp hg9 fp bp; have hg9 := Nat.le_trans hHeld.2.2.2.size hg9; refine hK.out _ _ ⟨hHeld.1.no fp, Fr.cell hHeld.2.1 fp (fun h => h), hHeld.2.2.1.no fp, hHeld.2.2.2.no fp⟩ (fun hHeld => ?_)
    clear hK K
    refine norm_ (a' := ?_) ?_ ?_
    rotate_left
    · simp only [Act.put, List.setIfInBounds_toArray, List.set_cons_zero, List.set_cons_succ]; rfl
    refine one_ (i := 7) (N := some 60) #[true, true, true, true, true, true, true, true, false, false, false, true, false, false] rfl rfl (by kernel_rfl) (by decide) (fun K hK => ?_)
    refine goes_ Try.func43 (by kernel_rfl) rfl #[ndV a va, .string y, .int .i64 ((i : Int) + 1)] (by rfl) rfl rfl (by simp only [List.map_toArray, List.map_cons, List.map_nil]; rfl) ?_; refine (CW.out _ hHeld.2.2.1).mono ?_; rintro e wq ⟨v9, rfl, e9, f9⟩; refine ⟨_, rfl, hK.out _ _ ⟨hHeld.1.no f9, Fr.cell hHeld.2.1 f9 (fun h => h), hHeld.2.2.1.no f9, hHeld.2.2.2.no f9⟩ (fun hHeld => ?_)⟩
    clear hK K
    refine norm_ (a' := ?_) ?_ ?_
    rotate_left
    · simp only [Act.put, List.setIfInBounds_toArray, List.set_cons_zero, List.set_cons_succ]; rfl
    refine pure_ (i := 8) (N := some 52) (v := ?_) (a' := ?_) #[true, true, true, true, true, true, true, true, true, false, false, true, false, false] rfl rfl (by kernel_rfl) (fun _ _ _ h => h.pan) (Or.inl ⟨by rfl, ?_⟩) ?_ ?_
    rotate_left
    · intro w'; go_simp; with_reducible rfl
    rotate_left
    · simp only [Act.put, List.setIfInBounds_toArray, List.set_cons_zero, List.set_cons_succ]; rfl
    refine pure_ (i := 9) (N := some 61) (v := ?_) (a' := ?_) #[true, true, true, true, true, true, true, true, true, true, false, true, false, false] rfl rfl (by kernel_rfl) (fun _ _ _ h => h.pan) (Or.inl ⟨by rfl, ?_⟩) ?_ ?_
    rotate_left
    · intro w'; go_simp; with_reducible rfl
    rotate_left
    · simp only [Act.put, List.setIfInBounds_toArray, List.set_cons_zero, List.set_cons_succ]; rfl
    refine pure_ (i := 10) (N := some 62) (v := ?_) (a' := ?_) #[true, true, true, true, true, true, true, true, true, true, true, true, false, false] rfl rfl (by kernel_rfl) (fun _ _ _ h => h.pan) (Or.inl ⟨by rfl, ?_⟩) ?_ ?_
    rotate_left
    · intro w'; go_simp; with_reducible rfl
    rotate_left
    · simp only [Act.put, List.setIfInBounds_toArray, List.set_cons_zero, List.set_cons_succ]; rfl
    refine last_ (i := 12) (N := none) #[true, true, true, true, true, true, true, true, true, true, true, true, true, false] rfl rfl (by kernel_rfl) (by decide) (fun K hK => ?_)
    refine step_store_row rfl rfl 56 _ _ rfl g9 (ndL R.1.kind R.1.mode R.1.data R.1.target v9).toArray rfl rfl 56 (ndL 0 0 ⟨#[]⟩ ⟨#[]⟩ (.slice none 0 0)) (by first | exact bp | exact bp.no f9) sizeNd rfl (ndL_one _ _ _ _ e9.one) ?_; intro ws fs bs'; refine hK.out _ _ ?_
    clear hK K
    refine norm_ (a' := ?_) ?_ ?_
    rotate_left
    · simp only [Act.put, List.setIfInBounds_toArray, List.set_cons_zero, List.set_cons_succ]; rfl
    refine pure_ (i := 13) (N := some 10) (v := ?_) (a' := ?_) #[true, true, true, true, true, true, true, true, true, true, true, true, true, true] rfl rfl (by kernel_rfl) (fun _ _ _ h => h.pan) (Or.inl ⟨by rfl, ?_⟩) ?_ ?_
    rotate_left
    · intro w'; go_simp; with_reducible rfl
    rotate_left
    · simp only [Act.put, List.setIfInBounds_toArray, List.set_cons_zero, List.set_cons_succ]; rfl
    refine done_ (by kernel_rfl) ?_
    refine join_fin (g9, v9) ?_ ?_; exact ⟨hg9, hHeld.2.2.2.one fs (.inr hg9), bs', by first | exact EntS.oneN (e9.no fp) (fun z h => by cases h) bp fs | exact EntS.oneN e9 (fun z h => by cases h) (bp.no f9) fs⟩; (simp only [putAll, Act.put, List.setIfInBounds_toArray, List.set_cons_zero, List.set_cons_succ]; rfl)

set_option maxHeartbeats 8000000 in
set_option maxRecDepth 100000 in
theorem order_reg22 (b o c i n g g' : Nat) (a : Nd) (va v1 : Value) (y : ByteArray) (R : Nd × Int) (W : World) (u : Nat → Value) (hi : i < n) (hn : n ≤ 30) (B : Blk W g 56 (ndL a.kind a.mode a.data a.target va)) (ha : EntS W va a.ents)
    (l1 : W.cell? ⟨b, o + i, none⟩ = some (.string y)) (CW : Kp (∀ W, EntS W va a.ents → Calls Try.prog 43 #[ndV a va, .string y, .int .i64 ((i : Int) + 1)] W fun e w' => Gives W R.1 R.2 e w')) (Q : Exit → Act → World → Prop)
    (hQ : ∀ (u : Nat → Value) g9 v9 ws, W.heap.size ≤ g9 → Fr No W ws → Blk ws g9 56 (ndL R.1.kind R.1.mode R.1.data R.1.target v9) → EntS ws v9 R.1.ents → Q .normal { tmps := List.toArray (.slice (some ⟨b, o, none⟩) n c :: v1 :: u 2 :: u 3 :: u 4 :: .pointer (some ⟨g', 0, none⟩) :: .pointer (some ⟨g, 0, none⟩) :: u 7 :: u 8 :: u 9 :: u 10 :: .int .i64 (i : Int) :: .pointer (some ⟨g9, 0, none⟩) :: .int .i64 R.2 :: u 14 :: u 15 :: u 16 :: u 17 :: u 18 :: u 19 :: u 20 :: u 21 :: u 22 :: u 23 :: u 24 :: u 25 :: u 26 :: u 27 :: u 28 :: u 29 :: u 30 :: u 31 :: u 32 :: u 33 :: u 34 :: u 35 :: u 36 :: u 37 :: u 38 :: u 39 :: u 40 :: u 41 :: u 42 :: u 43 :: u 44 :: u 45 :: u 46 :: u 47 :: u 48 :: u 49 :: u 50 :: u 51 :: u 52 :: u 53 :: u 54 :: u 55 :: u 56 :: u 57 :: u 58 :: u 59 :: u 60 :: u 61 :: u 62 :: u 63 :: u 64 :: u 65 :: u 66 :: u 67 :: u 68 :: u 69 :: u 70 :: u 71 :: u 72 :: u 73 :: u 74 :: u 75 :: u 76 :: u 77 :: u 78 :: u 79 :: u 80 :: u 81 :: u 82 :: u 83 :: u 84 :: u 85 :: u 86 :: u 87 :: u 88 :: u 89 :: u 90 :: u 91 :: u 92 :: u 93 :: u 94 :: u 95 :: u 96 :: u 97 :: u 98 :: u 99 :: u 100 :: u 101 :: u 102 :: u 103 :: u 104 :: u 105 :: u 106 :: u 107 :: u 108 :: u 109 :: u 110 :: u 111 :: u 112 :: u 113 :: u 114 :: u 115 :: u 116 :: u 117 :: u 118 :: u 119 :: u 120 :: u 121 :: u 122 :: u 123 :: u 124 :: u 125 :: u 126 :: u 127 :: u 128 :: u 129 :: u 130 :: u 131 :: u 132 :: u 133 :: u 134 :: u 135 :: u 136 :: []), defers := [] } ws) :
    Code.wp Try.prog (sub [1, 1, 1, 1, 1, 0, 1, 0, 0, 1, 0, 0, 0] bodyOrder) Q { tmps := List.toArray (.slice (some ⟨b, o, none⟩) n c :: v1 :: u 2 :: u 3 :: u 4 :: .pointer (some ⟨g', 0, none⟩) :: .pointer (some ⟨g, 0, none⟩) :: u 7 :: u 8 :: u 9 :: u 10 :: .int .i64 (i : Int) :: u 12 :: u 13 :: u 14 :: u 15 :: u 16 :: u 17 :: u 18 :: u 19 :: u 20 :: u 21 :: u 22 :: u 23 :: u 24 :: u 25 :: u 26 :: u 27 :: u 28 :: u 29 :: u 30 :: u 31 :: u 32 :: u 33 :: u 34 :: u 35 :: u 36 :: u 37 :: u 38 :: u 39 :: u 40 :: u 41 :: u 42 :: u 43 :: u 44 :: u 45 :: u 46 :: u 47 :: u 48 :: u 49 :: u 50 :: u 51 :: u 52 :: u 53 :: u 54 :: u 55 :: u 56 :: u 57 :: u 58 :: u 59 :: u 60 :: u 61 :: u 62 :: u 63 :: u 64 :: u 65 :: u 66 :: u 67 :: u 68 :: u 69 :: u 70 :: u 71 :: u 72 :: u 73 :: u 74 :: u 75 :: u 76 :: u 77 :: u 78 :: u 79 :: u 80 :: u 81 :: u 82 :: u 83 :: u 84 :: u 85 :: u 86 :: u 87 :: u 88 :: u 89 :: u 90 :: u 91 :: u 92 :: u 93 :: u 94 :: u 95 :: u 96 :: u 97 :: u 98 :: u 99 :: u 100 :: u 101 :: u 102 :: u 103 :: u 104 :: u 105 :: u 106 :: u 107 :: u 108 :: u 109 :: u 110 :: u 111 :: u 112 :: u 113 :: u 114 :: u 115 :: u 116 :: u 117 :: u 118 :: u 119 :: u 120 :: u 121 :: u 122 :: u 123 :: u 124 :: u 125 :: u 126 :: u 127 :: u 128 :: u 129 :: u 130 :: u 131 :: u 132 :: u 133 :: u 134 :: u 135 :: u 136 :: []), defers := [] } W := by
  conv => arg 2; whnf
  have hiz : (i : Int) < (n : Int) := by omega
  have k2 : (0 : Int) ≤ (i : Int) := by omega
  have k3 : (i : Int) ≤ 30 := by omega
  have hkw : IntKind.i64.wrap ((i : Int) + 1) = (i : Int) + 1 := by rw [IntKind.wrap_i64]; omega
  have fd := (Fr.refl No W).drew
  have HQ := Kp.mk hQ
  clear hi hn hQ
  refine region_join (τ := Nat × Value) (fun (u : Nat → Value) t => [(12, .pointer (some ⟨t.1, 0, none⟩)), (13, .int .i64 R.2), (73, u 73), (74, u 74), (75, u 75), (76, u 76), (77, u 77), (78, u 78), (79, u 79), (80, u 80), (81, u 81), (82, u 82), (83, u 83)]) (fun t ws => W.heap.size ≤ t.1 ∧ Fr No W ws ∧ Blk ws t.1 56 (ndL R.1.kind R.1.mode R.1.data R.1.target t.2) ∧ EntS ws t.2 R.1.ents) ?_ ?_
  rotate_left
  · rintro u' ⟨g9, v9⟩ ws ⟨q1, q2, q3, q4⟩
    simp only [putAll, Act.put, List.setIfInBounds_toArray, List.set_cons_zero, List.set_cons_succ]
    exact K_u (K := Q .normal) (fun u => HQ.out u g9 v9 ws q1 q2 q3 q4) rfl
  refine start_ (n := 14) (S := (fun w' => Blk w' g 56 (ndL a.kind a.mode a.data a.target va) ∧ w'.cell? ⟨b, o + i, none⟩ = some (.string y) ∧ EntS w' va a.ents ∧ Fr No W w')) (ds := [12]) #[false, false, false, false, false, false, false, false, false, false, false, false, false, false] (by kernel_rfl) rfl rfl ⟨B.no fd, Fr.cell l1 fd (fun h => h), ha.no fd, fd⟩ (fun hHeld => ?_)
  refine pure_ (i := 1) (N := some 75) (v := ?_) (a' := ?_) #[false, true, false, false, false, false, false, false, false, false, false, false, false, false] rfl rfl (by kernel_rfl) (fun _ _ _ h => h.pan) (Or.inl ⟨by rfl, ?_⟩) ?_ ?_
  rotate_left
  · intro w'; go_simp; with_reducible rfl
  rotate_left
  · simp only [Act.put, List.setIfInBounds_toArray, List.set_cons_zero, List.set_cons_succ]; rfl
  refine pure_ (i := 2) (N := some 76) (v := ?_) (a' := ?_) #[false, true, true, false, false, false, false, false, false, false, false, false, false, false] rfl rfl (by kernel_rfl) (fun _ _ _ h => h.pan) (Or.inl ⟨by rfl, ?_⟩) ?_ ?_
  rotate_left
  · intro w'; go_simp; with_reducible rfl
  rotate_left
  · simp only [Act.put, List.setIfInBounds_toArray, List.set_cons_zero, List.set_cons_succ]; rfl
  refine pure_ (i := 3) (N := some 77) (v := ?_) (a' := ?_) #[false, true, true, true, false, false, false, false, false, false, false, false, false, false] rfl rfl (by kernel_rfl) (fun _ _ _ h => h.pan) (Or.inl ⟨by rfl, ?_⟩) ?_ ?_
  rotate_left
  · intro w'; go_simp; with_reducible rfl
  rotate_left
  · simp only [Act.put, List.setIfInBounds_toArray, List.set_cons_zero, List.set_cons_succ]; rfl
  refine pure_ (i := 5) (N := some 79) (v := ?_) (a' := ?_) #[false, true, true, true, false, true, false, false, false, false, false, false, false, false] rfl rfl (by kernel_rfl) (fun _ _ _ h => h.pan) (Or.inl ⟨by rfl, ?_⟩) ?_ ?_
  rotate_left
  · intro w'; go_simp; with_reducible rfl
  rotate_left
  · simp only [Act.put, List.setIfInBounds_toArray, List.set_cons_zero, List.set_cons_succ]; rfl
  refine pure_ (i := 6) (N := some 80) (v := ?_) (a' := ?_) #[false, true, true, true, false, true, true, false, false, false, false, false, false, false] rfl rfl (by kernel_rfl) (fun _ _ _ h => h.pan) (Or.inl ⟨by rfl, ?_⟩) ?_ ?_
  rotate_left
  · intro w'; go_simp; with_reducible rfl
  rotate_left
  · simp only [Act.put, List.setIfInBounds_toArray, List.set_cons_zero, List.set_cons_succ]; rfl
  refine take_ (i := 0) (N := some 74) (v := ?_) (a' := ?_) #[true, true, true, true, false, true, true, false, false, false, false, false, false, false] rfl rfl (by kernel_rfl) (fun _ _ _ h => h.pan) (Or.inl ⟨by rfl, ?_⟩) hHeld ?_ ?_
  rotate_left
  · rintro w' ⟨s0, s1, s2, s3⟩; have c0 := s0.at_ 0 rfl; have c1 := s0.at_ 1 rfl; have c2 := s0.at_ 2 rfl; have c3 := s0.at_ 3 rfl; have c4 := s0.at_ 4 rfl; go_simp; with_reducible rfl
  rotate_left
  · simp only [Act.put, List.setIfInBounds_toArray, List.set_cons_zero, List.set_cons_succ]; rfl
  refine take_ (i := 4) (N := some 78) (v := ?_) (a' := ?_) #[true, true, true, true, true, true, true, false, false, false, false, false, false, false] rfl rfl (by kernel_rfl) (fun _ _ _ h => h.pan) (Or.inl ⟨by rfl, ?_⟩) hHeld ?_ ?_
  rotate_left
  · rintro w' ⟨s0, s1, s2, s3⟩; have c0 := s0.at_ 0 rfl; have c1 := s0.at_ 1 rfl; have c2 := s0.at_ 2 rfl; have c3 := s0.at_ 3 rfl; have c4 := s0.at_ 4 rfl; go_simp; with_reducible rfl
  rotate_left
  · simp only [Act.put, List.setIfInBounds_toArray, List.set_cons_zero, List.set_cons_succ]; rfl
  refine two_ (i := 7) (j := 11) (Ni := some 81) (Nj := some 12) #[true, true, true, true, true, true, true, true, false, false, false, false, false, false] #[true, true, true, true, true, true, true, false, false, false, false, true, false, false] rfl rfl rfl rfl (by kernel_rfl) (by decide) (by decide) (fun K hK => ?_) (fun K hK => ?_)
  · refine goes_ Try.func43 (by kernel_rfl) rfl #[ndV a va, .string y, .int .i64 ((i : Int) + 1)] (by rfl) rfl rfl (by simp only [List.map_toArray, List.map_cons, List.map_nil]; rfl) ?_; refine (CW.out _ hHeld.2.2.1).mono ?_; rintro e wq ⟨v9, rfl, e9, f9⟩; refine ⟨_, rfl, hK.out _ _ ⟨hHeld.1.no f9, Fr.cell hHeld.2.1 f9 (fun h => h), hHeld.2.2.1.no f9, hHeld.2.2.2.no f9⟩ (fun hHeld => ?_)⟩
    clear hK K
    refine norm_ (a' := ?_) ?_ ?_
    rotate_left
    · simp only [Act.put, List.setIfInBounds_toArray, List.set_cons_zero, List.set_cons_succ]; rfl
    refine pure_ (i := 8) (N := some 73) (v := ?_) (a' := ?_) #[true, true, true, true, true, true, true, true, true, false, false, false, false, false] rfl rfl (by kernel_rfl) (fun _ _ _ h => h.pan) (Or.inl ⟨by rfl, ?_⟩) ?_ ?_
    rotate_left
    · intro w'; go_simp; with_reducible rfl
    rotate_left
    · simp only [Act.put, List.setIfInBounds_toArray, List.set_cons_zero, List.set_cons_succ]; rfl
    refine pure_ (i := 9) (N := some 82) (v := ?_) (a' := ?_) #[true, true, true, true, true, true, true, true, true, true, false, false, false, false] rfl rfl (by kernel_rfl) (fun _ _ _ h => h.pan) (Or.inl ⟨by rfl, ?_⟩) ?_ ?_
    rotate_left
    · intro w'; go_simp; with_reducible rfl
    rotate_left
    · simp only [Act.put, List.setIfInBounds_toArray, List.set_cons_zero, List.set_cons_succ]; rfl
    refine pure_ (i := 10) (N := some 83) (v := ?_) (a' := ?_) #[true, true, true, true, true, true, true, true, true, true, true, false, false, false] rfl rfl (by kernel_rfl) (fun _ _ _ h => h.pan) (Or.inl ⟨by rfl, ?_⟩) ?_ ?_
    rotate_left
    · intro w'; go_simp; with_reducible rfl
    rotate_left
    · simp only [Act.put, List.setIfInBounds_toArray, List.set_cons_zero, List.set_cons_succ]; rfl
    refine one_ (i := 11) (N := some 12) #[true, true, true, true, true, true, true, true, true, true, true, true, false, false] rfl rfl (by kernel_rfl) (by decide) (fun K hK => ?_)
    (first | refine step_alloc (N := some 9) rfl rfl 56 rfl _ (ndL 0 0 ⟨#[]⟩ ⟨#[]⟩ (.slice none 0 0)) zeroNd rfl ?_ | refine step_alloc (N := some 12) rfl rfl 56 rfl _ (ndL 0 0 ⟨#[]⟩ ⟨#[]⟩ (.slice none 0 0)) zeroNd rfl ?_); intro g9 wp hg9 fp bp; have hg9 := Nat.le_trans hHeld.2.2.2.size hg9; refine hK.out _ _ ⟨hHeld.1.no fp, Fr.cell hHeld.2.1 fp (fun h => h), hHeld.2.2.1.no fp, hHeld.2.2.2.no fp⟩ (fun hHeld => ?_)
    clear hK K
    refine norm_ (a' := ?_) ?_ ?_
    rotate_left
    · simp only [Act.put, List.setIfInBounds_toArray, List.set_cons_zero, List.set_cons_succ]; rfl
    refine last_ (i := 12) (N := none) #[true, true, true, true, true, true, true, true, true, true, true, true, true, false] rfl rfl (by kernel_rfl) (by decide) (fun K hK => ?_)
    refine step_store_row rfl rfl 56 _ _ rfl g9 (ndL R.1.kind R.1.mode R.1.data R.1.target v9).toArray rfl rfl 56 (ndL 0 0 ⟨#[]⟩ ⟨#[]⟩ (.slice none 0 0)) (by first | exact bp | exact bp.no f9) sizeNd rfl (ndL_one _ _ _ _ e9.one) ?_; intro ws fs bs'; refine hK.out _ _ ?_
    clear hK K
    refine norm_ (a' := ?_) ?_ ?_
    rotate_left
    · simp only [Act.put, List.setIfInBounds_toArray, List.set_cons_zero, List.set_cons_succ]; rfl
    refine pure_ (i := 13) (N := some 13) (v := ?_) (a' := ?_) #[true, true, true, true, true, true, true, true, true, true, true, true, true, true] rfl rfl (by kernel_rfl) (fun _ _ _ h => h.pan) (Or.inl ⟨by rfl, ?_⟩) ?_ ?_
    rotate_left
    · intro w'; go_simp; with_reducible rfl
    rotate_left
    · simp only [Act.put, List.setIfInBounds_toArray, List.set_cons_zero, List.set_cons_succ]; rfl
    refine done_ (by kernel_rfl) ?_
    refine join_fin (g9, v9) ?_ ?_; exact ⟨hg9, hHeld.2.2.2.one fs (.inr hg9), bs', by first | exact EntS.oneN (e9.no fp) (fun z h => by cases h) bp fs | exact EntS.oneN e9 (fun z h => by cases h) (bp.no f9) fs⟩; (simp only [putAll, Act.put, List.setIfInBounds_toArray, List.set_cons_zero, List.set_cons_succ]; rfl)
  · (first | refine step_alloc (N := some 9) rfl rfl 56 rfl _ (ndL 0 0 ⟨#[]⟩ ⟨#[]⟩ (.slice none 0 0)) zeroNd rfl ?_ | refine step_alloc (N := some 12) rfl rfl 56 rfl _ (ndL 0 0 ⟨#[]⟩ ⟨#[]⟩ (.slice none 0 0)) zeroNd rfl ?_); intro g9 wp hg9 fp bp; have hg9 := Nat.le_trans hHeld.2.2.2.size hg9; refine hK.out _ _ ⟨hHeld.1.no fp, Fr.cell hHeld.2.1 fp (fun h => h), hHeld.2.2.1.no fp, hHeld.2.2.2.no fp⟩ (fun hHeld => ?_)
    clear hK K
    refine norm_ (a' := ?_) ?_ ?_
    rotate_left
    · simp only [Act.put, List.setIfInBounds_toArray, List.set_cons_zero, List.set_cons_succ]; rfl
    refine one_ (i := 7) (N := some 81) #[true, true, true, true, true, true, true, true, false, false, false, true, false, false] rfl rfl (by kernel_rfl) (by decide) (fun K hK => ?_)
    refine goes_ Try.func43 (by kernel_rfl) rfl #[ndV a va, .string y, .int .i64 ((i : Int) + 1)] (by rfl) rfl rfl (by simp only [List.map_toArray, List.map_cons, List.map_nil]; rfl) ?_; refine (CW.out _ hHeld.2.2.1).mono ?_; rintro e wq ⟨v9, rfl, e9, f9⟩; refine ⟨_, rfl, hK.out _ _ ⟨hHeld.1.no f9, Fr.cell hHeld.2.1 f9 (fun h => h), hHeld.2.2.1.no f9, hHeld.2.2.2.no f9⟩ (fun hHeld => ?_)⟩
    clear hK K
    refine norm_ (a' := ?_) ?_ ?_
    rotate_left
    · simp only [Act.put, List.setIfInBounds_toArray, List.set_cons_zero, List.set_cons_succ]; rfl
    refine pure_ (i := 8) (N := some 73) (v := ?_) (a' := ?_) #[true, true, true, true, true, true, true, true, true, false, false, true, false, false] rfl rfl (by kernel_rfl) (fun _ _ _ h => h.pan) (Or.inl ⟨by rfl, ?_⟩) ?_ ?_
    rotate_left
    · intro w'; go_simp; with_reducible rfl
    rotate_left
    · simp only [Act.put, List.setIfInBounds_toArray, List.set_cons_zero, List.set_cons_succ]; rfl
    refine pure_ (i := 9) (N := some 82) (v := ?_) (a' := ?_) #[true, true, true, true, true, true, true, true, true, true, false, true, false, false] rfl rfl (by kernel_rfl) (fun _ _ _ h => h.pan) (Or.inl ⟨by rfl, ?_⟩) ?_ ?_
    rotate_left
    · intro w'; go_simp; with_reducible rfl
    rotate_left
    · simp only [Act.put, List.setIfInBounds_toArray, List.set_cons_zero, List.set_cons_succ]; rfl
    refine pure_ (i := 10) (N := some 83) (v := ?_) (a' := ?_) #[true, true, true, true, true, true, true, true, true, true, true, true, false, false] rfl rfl (by kernel_rfl) (fun _ _ _ h => h.pan) (Or.inl ⟨by rfl, ?_⟩) ?_ ?_
    rotate_left
    · intro w'; go_simp; with_reducible rfl
    rotate_left
    · simp only [Act.put, List.setIfInBounds_toArray, List.set_cons_zero, List.set_cons_succ]; rfl
    refine last_ (i := 12) (N := none) #[true, true, true, true, true, true, true, true, true, true, true, true, true, false] rfl rfl (by kernel_rfl) (by decide) (fun K hK => ?_)
    refine step_store_row rfl rfl 56 _ _ rfl g9 (ndL R.1.kind R.1.mode R.1.data R.1.target v9).toArray rfl rfl 56 (ndL 0 0 ⟨#[]⟩ ⟨#[]⟩ (.slice none 0 0)) (by first | exact bp | exact bp.no f9) sizeNd rfl (ndL_one _ _ _ _ e9.one) ?_; intro ws fs bs'; refine hK.out _ _ ?_
    clear hK K
    refine norm_ (a' := ?_) ?_ ?_
    rotate_left
    · simp only [Act.put, List.setIfInBounds_toArray, List.set_cons_zero, List.set_cons_succ]; rfl
    refine pure_ (i := 13) (N := some 13) (v := ?_) (a' := ?_) #[true, true, true, true, true, true, true, true, true, true, true, true, true, true] rfl rfl (by kernel_rfl) (fun _ _ _ h => h.pan) (Or.inl ⟨by rfl, ?_⟩) ?_ ?_
    rotate_left
    · intro w'; go_simp; with_reducible rfl
    rotate_left
    · simp only [Act.put, List.setIfInBounds_toArray, List.set_cons_zero, List.set_cons_succ]; rfl
    refine done_ (by kernel_rfl) ?_
    refine join_fin (g9, v9) ?_ ?_; exact ⟨hg9, hHeld.2.2.2.one fs (.inr hg9), bs', by first | exact EntS.oneN (e9.no fp) (fun z h => by cases h) bp fs | exact EntS.oneN e9 (fun z h => by cases h) (bp.no f9) fs⟩; (simp only [putAll, Act.put, List.setIfInBounds_toArray, List.set_cons_zero, List.set_cons_succ]; rfl)
end Go.Proofs.Ytenlokbfjajbbaa.Nd
