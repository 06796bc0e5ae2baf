/- node.Parse. Condition: the text's size is bounded, as written out. -/
import Derived.Test.YtenlokbfjajbbaaNodeTail
import Derived.Scope
import Derived.ScopeJumps
import Derived.Laws.BitsLemmas
set_option linter.unusedSimpArgs false
set_option linter.unusedVariables false
namespace Go.Proofs.Ytenlokbfjajbbaa.Nd
open Go Go.RowKit Go.Proofs.YtenlokbfjajbbaaW.PrintWords Go.Proofs.YtenlokbfjajbbaaW.PrintLast Go.Proofs.Ytenlokbfjajbbaa.Ev Go.Proofs.Ytenlokbfjajbbaa.Reg Go.Proofs.Ytenlokbfjajbbaa.Sb

/-- Entries that the call owns, read. -/
theorem ents_of_own {w : World} {base : Nat} {v : Value} {es : List Ent} (h : w.ownsRow base 75 2 v es.length (entsV es)) : EntS w v es := by
  by_cases h0 : 0 < es.length
  · obtain ⟨g, cap, cur, rfl, _, hr⟩ := row_of_own h rfl h0
    exact hr.ents
  · have hz : es.length = 0 := by omega
    rcases h.2 with ⟨rfl, _⟩ | ⟨g, cap, cur, rfl, hbg, hg, hnc, hcm, hcs, htake⟩
    · have : es = [] := List.eq_nil_of_length_eq_zero hz
      subst this
      exact EntS.nil _
    · exact ⟨⟨_, _, rfl, hnc, by simpa [maxLen] using hcm, fun h => absurd h h0⟩⟩
theorem parse_small : ∀ (n : Nat) (l : List UInt8) (es : List Ent), parseE n l = some es → Small es
  | 0, l, es, h => by simp [parseE] at h
  | n + 1, [], es, h => by
    simp only [parseE, Option.some.injEq] at h
    subst h
    intro e he
    cases he
  | n + 1, c :: l, es, h => by
    simp only [parseE] at h
    split at h
    · cases h
    · obtain ⟨es', he, rfl⟩ := Option.map_eq_some_iff.1 h
      intro e hm
      rcases List.mem_cons.1 hm with rfl | hm
      · have := c.toNat_lt
        have h1 : (bs (l.take c.toNat)).size = (l.take c.toNat).length := bs_size _
        have h2 : (l.take c.toNat).length ≤ c.toNat := List.length_take_le _ _
        show (bs (l.take c.toNat)).size < _
        omega
      · exact parse_small n _ _ he e hm
/-- At the jump: nothing has been written into the result. -/
def Wr (W : World) (g2 : Nat) (R : Nd × Int) (a : Act) (w' : World) : Prop := ∃ u : Nat → Value, (Blk w' g2 56 (ndL 0 0 ⟨#[]⟩ ⟨#[]⟩ (.slice none 0 0)) ∧ Fr No W w' ∧ R = (zeroN, 2)) ∧ a = { tmps := List.toArray (u 0 :: undef :: .pointer (some ⟨g2, 0, none⟩) :: u 3 :: u 4 :: u 5 :: u 6 :: u 7 :: u 8 :: u 9 :: u 10 :: u 11 :: u 12 :: u 13 :: u 14 :: u 15 :: u 16 :: u 17 :: u 18 :: u 19 :: u 20 :: u 21 :: u 22 :: u 23 :: u 24 :: u 25 :: u 26 :: u 27 :: u 28 :: u 29 :: u 30 :: u 31 :: u 32 :: u 33 :: u 34 :: u 35 :: u 36 :: u 37 :: u 38 :: u 39 :: u 40 :: u 41 :: u 42 :: u 43 :: u 44 :: u 45 :: u 46 :: u 47 :: u 48 :: u 49 :: u 50 :: u 51 :: u 52 :: u 53 :: u 54 :: u 55 :: u 56 :: u 57 :: u 58 :: u 59 :: u 60 :: u 61 :: u 62 :: u 63 :: u 64 :: u 65 :: u 66 :: u 67 :: u 68 :: u 69 :: u 70 :: u 71 :: u 72 :: u 73 :: u 74 :: u 75 :: u 76 :: u 77 :: u 78 :: u 79 :: u 80 :: u 81 :: u 82 :: u 83 :: u 84 :: u 85 :: []), defers := [] }
theorem wr_u {g2 : Nat} {A : Array Value} (he : (fun u : Nat → Value => ({ tmps := List.toArray (u 0 :: undef :: .pointer (some ⟨g2, 0, none⟩) :: u 3 :: u 4 :: u 5 :: u 6 :: u 7 :: u 8 :: u 9 :: u 10 :: u 11 :: u 12 :: u 13 :: u 14 :: u 15 :: u 16 :: u 17 :: u 18 :: u 19 :: u 20 :: u 21 :: u 22 :: u 23 :: u 24 :: u 25 :: u 26 :: u 27 :: u 28 :: u 29 :: u 30 :: u 31 :: u 32 :: u 33 :: u 34 :: u 35 :: u 36 :: u 37 :: u 38 :: u 39 :: u 40 :: u 41 :: u 42 :: u 43 :: u 44 :: u 45 :: u 46 :: u 47 :: u 48 :: u 49 :: u 50 :: u 51 :: u 52 :: u 53 :: u 54 :: u 55 :: u 56 :: u 57 :: u 58 :: u 59 :: u 60 :: u 61 :: u 62 :: u 63 :: u 64 :: u 65 :: u 66 :: u 67 :: u 68 :: u 69 :: u 70 :: u 71 :: u 72 :: u 73 :: u 74 :: u 75 :: u 76 :: u 77 :: u 78 :: u 79 :: u 80 :: u 81 :: u 82 :: u 83 :: u 84 :: u 85 :: []), defers := [] } : Act)) (fun i => A.getD i undef) = { tmps := A, defers := [] }) : ∃ u : Nat → Value, ({ tmps := A, defers := [] } : Act) = { tmps := List.toArray (u 0 :: undef :: .pointer (some ⟨g2, 0, none⟩) :: u 3 :: u 4 :: u 5 :: u 6 :: u 7 :: u 8 :: u 9 :: u 10 :: u 11 :: u 12 :: u 13 :: u 14 :: u 15 :: u 16 :: u 17 :: u 18 :: u 19 :: u 20 :: u 21 :: u 22 :: u 23 :: u 24 :: u 25 :: u 26 :: u 27 :: u 28 :: u 29 :: u 30 :: u 31 :: u 32 :: u 33 :: u 34 :: u 35 :: u 36 :: u 37 :: u 38 :: u 39 :: u 40 :: u 41 :: u 42 :: u 43 :: u 44 :: u 45 :: u 46 :: u 47 :: u 48 :: u 49 :: u 50 :: u 51 :: u 52 :: u 53 :: u 54 :: u 55 :: u 56 :: u 57 :: u 58 :: u 59 :: u 60 :: u 61 :: u 62 :: u 63 :: u 64 :: u 65 :: u 66 :: u 67 :: u 68 :: u 69 :: u 70 :: u 71 :: u 72 :: u 73 :: u 74 :: u 75 :: u 76 :: u 77 :: u 78 :: u 79 :: u 80 :: u 81 :: u 82 :: u 83 :: u 84 :: u 85 :: []), defers := [] } := ⟨fun i => A.getD i undef, he.symm⟩
theorem wr_of {W w' : World} {g2 : Nat} {A : Array Value} {R : Nd × Int} (b : Blk w' g2 56 (ndL 0 0 ⟨#[]⟩ ⟨#[]⟩ (.slice none 0 0))) (f : Fr No W w') (hR : R = (zeroN, 2)) (he : ∃ u : Nat → Value, ({ tmps := A, defers := [] } : Act) = { tmps := List.toArray (u 0 :: undef :: .pointer (some ⟨g2, 0, none⟩) :: u 3 :: u 4 :: u 5 :: u 6 :: u 7 :: u 8 :: u 9 :: u 10 :: u 11 :: u 12 :: u 13 :: u 14 :: u 15 :: u 16 :: u 17 :: u 18 :: u 19 :: u 20 :: u 21 :: u 22 :: u 23 :: u 24 :: u 25 :: u 26 :: u 27 :: u 28 :: u 29 :: u 30 :: u 31 :: u 32 :: u 33 :: u 34 :: u 35 :: u 36 :: u 37 :: u 38 :: u 39 :: u 40 :: u 41 :: u 42 :: u 43 :: u 44 :: u 45 :: u 46 :: u 47 :: u 48 :: u 49 :: u 50 :: u 51 :: u 52 :: u 53 :: u 54 :: u 55 :: u 56 :: u 57 :: u 58 :: u 59 :: u 60 :: u 61 :: u 62 :: u 63 :: u 64 :: u 65 :: u 66 :: u 67 :: u 68 :: u 69 :: u 70 :: u 71 :: u 72 :: u 73 :: u 74 :: u 75 :: u 76 :: u 77 :: u 78 :: u 79 :: u 80 :: u 81 :: u 82 :: u 83 :: u 84 :: u 85 :: []), defers := [] }) : Wr W g2 R { tmps := A, defers := [] } w' := by
  obtain ⟨u, hu⟩ := he
  exact ⟨u, ⟨b, f, hR⟩, hu⟩

theorem sizeStr : (Try.prog.info? 9).map (·.size) = some 1 := by kernel_rfl
set_option maxHeartbeats 8000000 in
set_option maxRecDepth 100000 in
theorem parse_any (s : List UInt8) (W : World) (hl : s.length ≤ 1099511627776) :
    Calls Try.prog 39 #[.string (bs s)] W fun e w' => Gives W (parseN s).1 (parseN s).2 e w' := by
  obtain ⟨R, hR⟩ : ∃ R, parseN s = R := ⟨_, rfl⟩
  rw [hR]
  have HR := Kp.mk hR
  clear hR
  have hsz : (bs s).size = s.length := bs_size s
  by_cases h3 : s.length < 3
  · have h3z : ((bs s).size : Int) < 3 := by omega
    have hp : parseN s = (zeroN, 2) := by
      match s, h3 with
      | [], _ => rfl
      | [_], _ => rfl
      | [_, _], _ => rfl
      | _ :: _ :: _ :: _, h => simp at h; omega
    have hRz : R = (zeroN, 2) := by rw [← HR.out, hp]
    have HRZ := Kp.mk hRz
    clear hRz
    clear hp hsz
    go_enter Try.func39, Try.ntmps39
    go_wp2_with (first
      | ((with_reducible refine gate_dst (N := 2) rfl ?_); refine ev_alloc rfl 56 rfl _ (ndL 0 0 ⟨#[]⟩ ⟨#[]⟩ (.slice none 0 0)) zeroNd rfl ?_; intro g2 w2 hg2 f2 b2)
      | (refine wp_scope_jumps 0 (Wr W g2 R) (fun _ _ => 0) rfl ?_ ?_)
      | ((with_reducible refine gate_dst (N := 4) rfl ?_); refine ev_alloc rfl 56 rfl _ (ndL 0 0 ⟨#[]⟩ ⟨#[]⟩ (.slice none 0 0)) zeroNd rfl ?_; intro g4 w4 hg4 f4 b4))
    · refine wp_goto ?_
      simp only [Exit.then, Exit.jump]
      refine ⟨trivial, wr_of (b2.no f4) (f2.no f4) HRZ.out ?_⟩
      exact wr_u rfl
    · rintro a9 w9 ⟨u, ⟨b9, f9, hR9⟩, rfl⟩
      subst hR9
      go_wp2_with ((with_reducible refine gate_store (t := 56) (p := 2) rfl ?_); go_must (refine ev_store_row rfl 56 _ _ rfl g2 (ndL 0 0 ⟨#[]⟩ ⟨#[]⟩ (.slice none 0 0)).toArray rfl rfl 56 _ b9 sizeNd rfl (ndL_one _ _ _ _ rfl) ?_); intro wA fA bA)
      refine bodyPost_ret (results_row_tmp rfl _ _ g2 _ _ _ rfl bA Try.underlying56 rfl sizeNd) rfl ⟨_, rfl, EntS.nil _, f9.one fA (.inr hg2)⟩
  · obtain ⟨k, a, b, r, rfl⟩ : ∃ k a b r, s = k :: a :: b :: r := by
      match s, h3 with
      | k :: a :: b :: r, _ => exact ⟨k, a, b, r, rfl⟩
      | [], h => exact absurd (by simp) h
      | [_], h => exact absurd (by simp) h
      | [_, _], h => exact absurd (by simp) h
    have h3z : ¬ ((bs (k :: a :: b :: r)).size : Int) < 3 := by omega
    have hn : (bs (k :: a :: b :: r)).size = r.length + 3 := by rw [bs_size]; rfl
    have hkn := k.toNat_lt
    have han := a.toNat_lt
    have hbn := b.toNat_lt
    have hw0 : ∀ h, IntKind.i64.wrap ((((bs (k :: a :: b :: r))[0]'h).toNat : Nat) : Int) = (k.toNat : Int) := fun _ => wraps_i64 (k.toNat : Int) (by omega) (by omega)
    have hw1 : ∀ h, IntKind.i64.wrap ((((bs (k :: a :: b :: r))[1]'h).toNat : Nat) : Int) = (a.toNat : Int) := fun _ => wraps_i64 (a.toNat : Int) (by omega) (by omega)
    have hw2 : ∀ h, IntKind.i64.wrap ((((bs (k :: a :: b :: r))[2]'h).toNat : Nat) : Int) = (b.toNat : Int) := fun _ => wraps_i64 (b.toNat : Int) (by omega) (by omega)
    have hw3 : IntKind.i64.wrap ((a.toNat : Int) * 256) = (a.toNat : Int) * 256 := wraps_i64 _ (by omega) (by omega)
    have hw4 : bits BinOp.or IntKind.i64 ((a.toNat : Int) * 256) (b.toNat : Int) = (a.toNat : Int) * 256 + (b.toNat : Int) := i64_or8 _ _ (by omega) (by omega) (by omega) (by omega) (by omega)
    have hq0 : (0 : Int) < (r.length : Int) + 1 + 1 + 1 := by omega
    have hq1 : (1 : Int) < (r.length : Int) + 1 + 1 + 1 := by omega
    have hq2 : (2 : Int) < (r.length : Int) + 1 + 1 + 1 := by omega
    go_enter Try.func39, Try.ntmps39
    go_wp2_with (first
      | ((with_reducible refine gate_dst (N := 2) rfl ?_); refine ev_alloc rfl 56 rfl _ (ndL 0 0 ⟨#[]⟩ ⟨#[]⟩ (.slice none 0 0)) zeroNd rfl ?_; intro g2 w2 hg2 f2 b2)
      | (refine wp_scope_jumps 0 (Wr W g2 R) (fun _ _ => 0) rfl ?_ ?_)
      | ((with_reducible refine gate_dst (N := 4) rfl ?_); refine ev_alloc rfl 56 rfl _ (ndL 0 0 ⟨#[]⟩ ⟨#[]⟩ (.slice none 0 0)) zeroNd rfl ?_; intro g4 w4 hg4 f4 b4))
    · refine start_ (n := 15) (S := fun _ => True) (ds := [12, 14]) #[false, false, false, false, false, false, false, false, false, false, false, false, false, false, false] (by kernel_rfl) rfl rfl trivial (fun hHeld => ?_)
      refine pure_ (i := 0) (N := some 10) (v := ?_) (a' := ?_) #[true, false, false, false, false, false, false, false, false, false, false, false, false, false, false] rfl rfl (by kernel_rfl) (fun _ _ _ h => h) (Or.inl ⟨by rfl, ?_⟩) ?_ ?_
      rotate_left
      · intro w'
        go_simp
        with_reducible rfl
      rotate_left
      · simp only [Act.put, List.setIfInBounds_toArray, List.set_cons_zero, List.set_cons_succ]
        rfl
      refine pure_ (i := 1) (N := some 11) (v := ?_) (a' := ?_) #[true, true, false, false, false, false, false, false, false, false, false, false, false, false, false] rfl rfl (by kernel_rfl) (fun _ _ _ h => h) (Or.inl ⟨by rfl, ?_⟩) ?_ ?_
      rotate_left
      · intro w'
        go_simp
        with_reducible rfl
      rotate_left
      · simp only [Act.put, List.setIfInBounds_toArray, List.set_cons_zero, List.set_cons_succ]
        rfl
      refine pure_ (i := 2) (N := some 12) (v := ?_) (a' := ?_) #[true, true, true, false, false, false, false, false, false, false, false, false, false, false, false] rfl rfl (by kernel_rfl) (fun _ _ _ h => h) (Or.inl ⟨by rfl, ?_⟩) ?_ ?_
      rotate_left
      · intro w'
        go_simp
        with_reducible rfl
      rotate_left
      · simp only [Act.put, List.setIfInBounds_toArray, List.set_cons_zero, List.set_cons_succ]
        rfl
      refine pure_ (i := 3) (N := some 13) (v := ?_) (a' := ?_) #[true, true, true, true, false, false, false, false, false, false, false, false, false, false, false] rfl rfl (by kernel_rfl) (fun _ _ _ h => h) (Or.inl ⟨by rfl, ?_⟩) ?_ ?_
      rotate_left
      · intro w'
        go_simp
        with_reducible rfl
      rotate_left
      · simp only [Act.put, List.setIfInBounds_toArray, List.set_cons_zero, List.set_cons_succ]
        rfl
      refine pure_ (i := 4) (N := some 14) (v := ?_) (a' := ?_) #[true, true, true, true, true, false, false, false, false, false, false, false, false, false, false] rfl rfl (by kernel_rfl) (fun _ _ _ h => h) (Or.inl ⟨by rfl, ?_⟩) ?_ ?_
      rotate_left
      · intro w'
        go_simp
        with_reducible rfl
      rotate_left
      · simp only [Act.put, List.setIfInBounds_toArray, List.set_cons_zero, List.set_cons_succ]
        rfl
      refine pure_ (i := 5) (N := some 15) (v := ?_) (a' := ?_) #[true, true, true, true, true, true, false, false, false, false, false, false, false, false, false] rfl rfl (by kernel_rfl) (fun _ _ _ h => h) (Or.inl ⟨by rfl, ?_⟩) ?_ ?_
      rotate_left
      · intro w'
        go_simp
        with_reducible rfl
      rotate_left
      · simp only [Act.put, List.setIfInBounds_toArray, List.set_cons_zero, List.set_cons_succ]
        rfl
      refine pure_ (i := 6) (N := some 16) (v := ?_) (a' := ?_) #[true, true, true, true, true, true, true, false, false, false, false, false, false, false, false] rfl rfl (by kernel_rfl) (fun _ _ _ h => h) (Or.inl ⟨by rfl, ?_⟩) ?_ ?_
      rotate_left
      · intro w'
        go_simp
        with_reducible rfl
      rotate_left
      · simp only [Act.put, List.setIfInBounds_toArray, List.set_cons_zero, List.set_cons_succ]
        rfl
      refine pure_ (i := 7) (N := some 17) (v := ?_) (a' := ?_) #[true, true, true, true, true, true, true, true, false, false, false, false, false, false, false] rfl rfl (by kernel_rfl) (fun _ _ _ h => h) (Or.inl ⟨by rfl, ?_⟩) ?_ ?_
      rotate_left
      · intro w'
        go_simp
        with_reducible rfl
      rotate_left
      · simp only [Act.put, List.setIfInBounds_toArray, List.set_cons_zero, List.set_cons_succ]
        rfl
      refine pure_ (i := 8) (N := some 18) (v := ?_) (a' := ?_) #[true, true, true, true, true, true, true, true, true, false, false, false, false, false, false] rfl rfl (by kernel_rfl) (fun _ _ _ h => h) (Or.inl ⟨by rfl, ?_⟩) ?_ ?_
      rotate_left
      · intro w'
        go_simp
        with_reducible rfl
      rotate_left
      · simp only [Act.put, List.setIfInBounds_toArray, List.set_cons_zero, List.set_cons_succ]
        rfl
      refine pure_ (i := 9) (N := some 19) (v := ?_) (a' := ?_) #[true, true, true, true, true, true, true, true, true, true, false, false, false, false, false] rfl rfl (by kernel_rfl) (fun _ _ _ h => h) (Or.inl ⟨by rfl, ?_⟩) ?_ ?_
      rotate_left
      · intro w'
        go_simp
        with_reducible rfl
      rotate_left
      · simp only [Act.put, List.setIfInBounds_toArray, List.set_cons_zero, List.set_cons_succ]
        rfl
      refine pure_ (i := 10) (N := some 20) (v := ?_) (a' := ?_) #[true, true, true, true, true, true, true, true, true, true, true, false, false, false, false] rfl rfl (by kernel_rfl) (fun _ _ _ h => h) (Or.inl ⟨by rfl, ?_⟩) ?_ ?_
      rotate_left
      · intro w'
        go_simp
        with_reducible rfl
      rotate_left
      · simp only [Act.put, List.setIfInBounds_toArray, List.set_cons_zero, List.set_cons_succ]
        rfl
      refine pure_ (i := 11) (N := some 21) (v := ?_) (a' := ?_) #[true, true, true, true, true, true, true, true, true, true, true, true, false, false, false] rfl rfl (by kernel_rfl) (fun _ _ _ h => h) (Or.inl ⟨by rfl, ?_⟩) ?_ ?_
      rotate_left
      · intro w'
        go_simp
        with_reducible rfl
      rotate_left
      · simp only [Act.put, List.setIfInBounds_toArray, List.set_cons_zero, List.set_cons_succ]
        rfl
      refine last_ (i := 12) (N := none) #[true, true, true, true, true, true, true, true, true, true, true, true, true, false, false] rfl rfl (by kernel_rfl) (by decide) (fun K hK => ?_)
      refine step_store rfl 3 _ _ rfl g4 0 (.int .i64 (k.toNat : Int)) rfl rfl rfl 56 _ (Blk.drew b4) (by simp) sizeInt ?_
      intro w5 f5 b5
      refine hK.out _ _ ?_
      clear hK K
      refine pure_ (i := 13) (N := some 22) (v := ?_) (a' := ?_) #[true, true, true, true, true, true, true, true, true, true, true, true, true, true, false] rfl rfl (by kernel_rfl) (fun _ _ _ h => h) (Or.inl ⟨by rfl, ?_⟩) ?_ ?_
      rotate_left
      · intro w'
        go_simp
        with_reducible rfl
      rotate_left
      · simp only [Act.put, List.setIfInBounds_toArray, List.set_cons_zero, List.set_cons_succ]
        rfl
      refine last_ (i := 14) (N := none) #[true, true, true, true, true, true, true, true, true, true, true, true, true, true, true] rfl rfl (by kernel_rfl) (by decide) (fun K hK => ?_)
      refine step_store rfl 3 _ _ rfl g4 1 (.int .i64 ((a.toNat : Int) * 256 + (b.toNat : Int))) rfl rfl rfl 56 _ b5 (by simp) sizeInt ?_
      intro w6 f6 b6
      refine hK.out _ _ ?_
      clear hK K
      refine done_ (by kernel_rfl) ?_
      have hs3 : ∀ W', (Instr.slice 9 (.string (bs (k :: a :: b :: r))) (some (.int .i64 3)) none none).run Try.prog W' = .ok (.string (bs r)) W' := fun W' => by
        rw [run_slice_string_l W' 9 (bs (k :: a :: b :: r)) Try.underlying9 .i64 _ (by omega) (by omega)]
        rw [show bs (k :: a :: b :: r) = ByteArray.mk (k :: a :: b :: r).toArray from rfl, ByteArray.extract_mk]
        rw [show ((3 : Int)).toNat = 3 from rfl, List.drop_succ_cons, List.drop_succ_cons, List.drop_succ_cons, List.drop_zero, List.take_of_length_le (by show r.length ≤ (k :: a :: b :: r).toArray.size - 3; simp)]
      have q0 := b6.at_ 0 rfl
      have hl' : r.length ≤ 1099511627776 := by rw [List.length_cons, List.length_cons, List.length_cons] at hl; omega
      by_cases hk1 : k.toNat = 1
      · have hk1z : (k.toNat : Int) = 1 := by omega
        have HFIN : Kp (∀ es, parseE (([] : List UInt8).length + 1) [] = some es → doneN ⟨(k.toNat : Int), ((a.toNat : Int) * 256 + (b.toNat : Int)), bs r, ⟨#[]⟩, es⟩ = R) := ⟨fun es he => by
          rw [← HR.out]
          simp only [List.length_nil, parseE, Option.some.injEq] at he
          subst he
          simp only [parseN, if_pos hk1, hk1z]⟩
        go_upto_block 1 with ((with_reducible refine gate_store (t := 9) (p := 30) rfl ?_); go_must (refine ev_store rfl 9 _ _ rfl g4 2 (.string (bs r)) rfl rfl rfl 56 _ b6 (by simp) sizeStr ?_); intro wd fd bd)
        have B2 : Blk wd g2 56 (ndL 0 0 ⟨#[]⟩ ⟨#[]⟩ (.slice none 0 0)) := (((Blk.drew (b2.no f4)).one f5 (by have := b2.lt; omega)).one f6 (by have := b2.lt; omega)).one fd (by have := b2.lt; omega)
        have FW : Fr No W wd := (((f2.no f4).drew.one f5 (.inr (by have := f2.size; omega))).one f6 (.inr (by have := f2.size; omega))).one fd (.inr (by have := f2.size; omega))
        have h24 : g2 < g4 := by have := b2.lt; omega
        have h2l := B2.lt
        have B2' := Kp.mk B2
        have FW' := Kp.mk FW
        have bd' := Kp.mk bd
        clear q0 b4 b5 b6 bd B2 FW
        refine wp_u (fun u => parse_loop g2 g4 (k.toNat : Int) ((a.toNat : Int) * 256 + (b.toNat : Int)) (bs r) ⟨#[]⟩ [] _ u (by simp) bd'.out _ (fun _ _ _ _ _ h => h) ?_ ?_) rfl
        · intro W' es v hes F O B u
          have hN : doneN ⟨(k.toNat : Int), ((a.toNat : Int) * 256 + (b.toNat : Int)), (bs r), ⟨#[]⟩, es⟩ = R := HFIN.out es hes
          have hin : In v (fun b => b ≠ g2) := fun b o n c e => by
            have := own_new_base O b (by rw [e]; rfl)
            omega
          simp only [Exit.then]
          refine ‹∀ (a : Act) (w : World), Code.wp Try.prog _ _ a w → _› _ _ ?_
          refine wp_u (fun u => parse_tail g2 g4 ⟨(k.toNat : Int), ((a.toNat : Int) * 256 + (b.toNat : Int)), (bs r), ⟨#[]⟩, es⟩ v W' u (ents_of_own O) (parse_small _ _ _ hes) hin B (B2'.out.one F (by omega)) _ ?_) rfl
          intro W2 v2 f9 e9 b9 u
          rw [hN] at e9 b9 ⊢
          exact bodyPost_ret (results_row_tmp rfl _ _ g2 _ _ _ rfl b9 Try.underlying56 rfl sizeNd) rfl ⟨v2, rfl, e9, (FW'.out.one F (.inr (by omega))).one f9 (.inr hg2)⟩
        · intro W' hes F u
          have hz : R = (zeroN, 2) := absurd hes (by simp [parseE])
          simp only [Exit.then, Exit.jump]
          refine ⟨trivial, wr_of (B2'.out.one F (by omega)) (FW'.out.one F (.inr (by omega))) hz ?_⟩
          exact wr_u rfl
      · by_cases hk3 : k.toNat = 3
        · have hk3z : (k.toNat : Int) = 3 := by omega
          have HFIN : Kp (∀ es, parseE (([] : List UInt8).length + 1) [] = some es → doneN ⟨(k.toNat : Int), ((a.toNat : Int) * 256 + (b.toNat : Int)), ⟨#[]⟩, bs r, es⟩ = R) := ⟨fun es he => by
            rw [← HR.out]
            simp only [List.length_nil, parseE, Option.some.injEq] at he
            subst he
            simp only [parseN, if_neg hk1, if_pos hk3, hk3z]⟩
          go_upto_block 1 with ((with_reducible refine gate_store (t := 9) (p := 34) rfl ?_); go_must (refine ev_store rfl 9 _ _ rfl g4 3 (.string (bs r)) rfl rfl rfl 56 _ b6 (by simp) sizeStr ?_); intro wd fd bd)
          have B2 : Blk wd g2 56 (ndL 0 0 ⟨#[]⟩ ⟨#[]⟩ (.slice none 0 0)) := (((Blk.drew (b2.no f4)).one f5 (by have := b2.lt; omega)).one f6 (by have := b2.lt; omega)).one fd (by have := b2.lt; omega)
          have FW : Fr No W wd := (((f2.no f4).drew.one f5 (.inr (by have := f2.size; omega))).one f6 (.inr (by have := f2.size; omega))).one fd (.inr (by have := f2.size; omega))
          have h24 : g2 < g4 := by have := b2.lt; omega
          have h2l := B2.lt
          have B2' := Kp.mk B2
          have FW' := Kp.mk FW
          have bd' := Kp.mk bd
          clear q0 b4 b5 b6 bd B2 FW
          refine wp_u (fun u => parse_loop g2 g4 (k.toNat : Int) ((a.toNat : Int) * 256 + (b.toNat : Int)) ⟨#[]⟩ (bs r) [] _ u (by simp) bd'.out _ (fun _ _ _ _ _ h => h) ?_ ?_) rfl
          · intro W' es v hes F O B u
            have hN : doneN ⟨(k.toNat : Int), ((a.toNat : Int) * 256 + (b.toNat : Int)), ⟨#[]⟩, (bs r), es⟩ = R := HFIN.out es hes
            have hin : In v (fun b => b ≠ g2) := fun b o n c e => by
              have := own_new_base O b (by rw [e]; rfl)
              omega
            simp only [Exit.then]
            refine ‹∀ (a : Act) (w : World), Code.wp Try.prog _ _ a w → _› _ _ ?_
            refine wp_u (fun u => parse_tail g2 g4 ⟨(k.toNat : Int), ((a.toNat : Int) * 256 + (b.toNat : Int)), ⟨#[]⟩, (bs r), es⟩ v W' u (ents_of_own O) (parse_small _ _ _ hes) hin B (B2'.out.one F (by omega)) _ ?_) rfl
            intro W2 v2 f9 e9 b9 u
            rw [hN] at e9 b9 ⊢
            exact bodyPost_ret (results_row_tmp rfl _ _ g2 _ _ _ rfl b9 Try.underlying56 rfl sizeNd) rfl ⟨v2, rfl, e9, (FW'.out.one F (.inr (by omega))).one f9 (.inr hg2)⟩
          · intro W' hes F u
            have hz : R = (zeroN, 2) := absurd hes (by simp [parseE])
            simp only [Exit.then, Exit.jump]
            refine ⟨trivial, wr_of (B2'.out.one F (by omega)) (FW'.out.one F (.inr (by omega))) hz ?_⟩
            exact wr_u rfl
        · have hk1z : ¬ (k.toNat : Int) = 1 := by omega
          have hk3z : ¬ (k.toNat : Int) = 3 := by omega
          have HFIN : Kp (∀ es, parseE (r.length + 1) r = some es → doneN ⟨(k.toNat : Int), ((a.toNat : Int) * 256 + (b.toNat : Int)), ⟨#[]⟩, ⟨#[]⟩, es⟩ = R) := ⟨fun es he => by
            rw [← HR.out]
            simp only [parseN, if_neg hk1, if_neg hk3, he]⟩
          go_upto_block 1 with fail
          have B2 : Blk w6 g2 56 (ndL 0 0 ⟨#[]⟩ ⟨#[]⟩ (.slice none 0 0)) := ((Blk.drew (b2.no f4)).one f5 (by have := b2.lt; omega)).one f6 (by have := b2.lt; omega)
          have FW : Fr No W w6 := ((f2.no f4).drew.one f5 (.inr (by have := f2.size; omega))).one f6 (.inr (by have := f2.size; omega))
          have h24 : g2 < g4 := by have := b2.lt; omega
          have h2l := B2.lt
          have B2' := Kp.mk B2
          have FW' := Kp.mk FW
          have b6' := Kp.mk b6
          clear q0 b4 b5 b6 B2 FW
          refine wp_u (fun u => parse_loop g2 g4 (k.toNat : Int) ((a.toNat : Int) * 256 + (b.toNat : Int)) ⟨#[]⟩ ⟨#[]⟩ r _ u (by exact hl') b6'.out _ (fun _ _ _ _ _ h => h) ?_ ?_) rfl
          · intro W' es v hes F O B u
            have hN : doneN ⟨(k.toNat : Int), ((a.toNat : Int) * 256 + (b.toNat : Int)), ⟨#[]⟩, ⟨#[]⟩, es⟩ = R := HFIN.out es hes
            have hin : In v (fun b => b ≠ g2) := fun b o n c e => by
              have := own_new_base O b (by rw [e]; rfl)
              omega
            simp only [Exit.then]
            refine ‹∀ (a : Act) (w : World), Code.wp Try.prog _ _ a w → _› _ _ ?_
            refine wp_u (fun u => parse_tail g2 g4 ⟨(k.toNat : Int), ((a.toNat : Int) * 256 + (b.toNat : Int)), ⟨#[]⟩, ⟨#[]⟩, es⟩ v W' u (ents_of_own O) (parse_small _ _ _ hes) hin B (B2'.out.one F (by omega)) _ ?_) rfl
            intro W2 v2 f9 e9 b9 u
            rw [hN] at e9 b9 ⊢
            exact bodyPost_ret (results_row_tmp rfl _ _ g2 _ _ _ rfl b9 Try.underlying56 rfl sizeNd) rfl ⟨v2, rfl, e9, (FW'.out.one F (.inr (by omega))).one f9 (.inr hg2)⟩
          · intro W' hes F u
            have hz : R = (zeroN, 2) := by rw [← HR.out]; simp only [parseN, if_neg hk1, if_neg hk3, hes]
            simp only [Exit.then, Exit.jump]
            refine ⟨trivial, wr_of (B2'.out.one F (by omega)) (FW'.out.one F (.inr (by omega))) hz ?_⟩
            exact wr_u rfl
    · rintro a9 w9 ⟨u, ⟨b9, f9, hR9⟩, rfl⟩
      subst hR9
      go_wp2_with ((with_reducible refine gate_store (t := 56) (p := 2) rfl ?_); go_must (refine ev_store_row rfl 56 _ _ rfl g2 (ndL 0 0 ⟨#[]⟩ ⟨#[]⟩ (.slice none 0 0)).toArray rfl rfl 56 _ b9 sizeNd rfl (ndL_one _ _ _ _ rfl) ?_); intro wA fA bA)
      refine bodyPost_ret (results_row_tmp rfl _ _ g2 _ _ _ rfl bA Try.underlying56 rfl sizeNd) rfl ⟨_, rfl, EntS.nil _, f9.one fA (.inr hg2)⟩
end Go.Proofs.Ytenlokbfjajbbaa.Nd
