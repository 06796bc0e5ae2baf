/- Texts joined by merge.py: ChRefName, ChRefFillA, ChRefFillB, ChRefFillC. -/
import Derived.Test.YtaohfmmapammcaaDoorChOne
import Derived.Test.YtaohfmmapammcaaDoorRefSum
/- The document's Name, Names for chunks. Conditions: sizes are bounded, as written out. -/
set_option linter.unusedSimpArgs false
set_option linter.unusedVariables false
namespace Go.Proofs.YtaohfmmapammcaaDoor.Ch
open Go Go.RowKit Go.Proofs.YtaohfmmapammcaaDoorW.PrintWords Go.Proofs.YtaohfmmapammcaaDoor.Reg Go.Proofs.YtaohfmmapammcaaDoor.Sha Go.Proofs.YtaohfmmapammcaaDoor.Dig Go.Proofs.YtaohfmmapammcaaDoor.Ev

theorem all_zero {c : List UInt8} (h : ∀ j, j < c.length → c[j]? = some 0) : c.all (· == 0) = true := by
  rw [List.all_eq_true]
  intro x hx
  obtain ⟨i, hi⟩ := List.getElem?_of_mem hx
  have := h i (List.getElem?_eq_some_iff.1 hi).1
  rw [hi] at this
  cases this
  rfl
theorem not_all {c : List UInt8} {i : Nat} {x : UInt8} (h : c[i]? = some x) (hx : x ≠ 0) : ¬ (c.all (· == 0)) = true := by
  intro h1
  rw [List.all_eq_true] at h1
  have := h1 x (List.mem_of_getElem? h)
  exact hx (by simpa using this)

set_option maxHeartbeats 4000000 in
theorem rname_any (c : List UInt8) (hl : c.length ≤ 1099511627776) (w : World) :
    Calls Tryd.prog 22 #[.string (bs c)] w fun e w' => e = .returned (.string (bs (nameL c))) ∧ Fr No w w' := by
  have hsz : (bs c).size = c.length := bs_size c
  have hcat : cat [bs c] = c := by simp [cat]
  have CS : Kp (∀ W g, Blk W g 9 [.string (bs c)] → Calls Tryd.prog 31 #[.slice (some ⟨g, 0, none⟩) 1 1] W fun e w' => e = .returned (.string (bs (sumL c))) ∧ Fr No W w') := ⟨fun W g hb => by
    have := RefSum.rsum_any (some ⟨g, 0, none⟩) 1 [bs c] W (strs_blk (by simpa using hb) (by simp)) (by simp) (by rw [hcat]; exact hl) (by simp)
    rw [hcat] at this
    exact this.mono fun e w' ⟨h1, h2⟩ => ⟨h1, Fr.of_below h2⟩⟩
  clear hcat
  go_enter Tryd.func22, Tryd.ntmps22
  go_wp2_with fail
  go_loopg [3] c.length (fun kq v3 wr => ∃ i : Nat, i + kq = c.length ∧ v3 = .int .i64 i ∧ Kp (wr = w) ∧ Kp (∀ j, j < i → c[j]? = some 0))
  case atStart => exact ⟨0, by omega, rfl, ⟨rfl⟩, ⟨fun j hj => absurd hj (Nat.not_lt_zero _)⟩⟩
  case round =>
    obtain ⟨i, hi, rfl, HW, HZ⟩ := hrel
    obtain rfl := HW.out
    by_cases hic : i < c.length
    · have hicz : (i : Int) < (c.length : Int) := by omega
      obtain ⟨x, hx⟩ : ∃ x, c[i]? = some x := ⟨_, List.getElem?_eq_getElem hic⟩
      have ix := idx_any c i x hx
      have HX := Kp.mk hx
      have HI := Kp.mk hi
      clear hx hi
      by_cases hx0 : x = 0
      · subst hx0
        have hx1 : ((0 : UInt8).toNat : Int) = 0 := rfl
        rw [hx1] at ix
        go_wp2_with fail
        go_roundg (gk - 1)
        case measure => have := HI.out; omega
        case rel => exact ⟨i + 1, by have := HI.out; omega, by go_num, ⟨rfl⟩, ⟨fun j hj => by
          by_cases e : j = i
          · rw [e]; exact HX.out
          · exact HZ.out j (by omega)⟩⟩
      · have hn : Kp (nameL c = sumL c) := ⟨by unfold nameL; rw [if_neg (not_all HX.out hx0)]⟩
        have hxb : ((x.toNat : Int) != 0) = true := by
          have : x.toNat ≠ 0 := fun h => hx0 (by apply UInt8.toNat_inj.1; simpa using h)
          simp; omega
        generalize (x.toNat : Int) = y at ix hxb
        go_wp2_with (first
          | ((with_reducible refine gate_dst (N := 15) rfl ?_); refine ev_lit rfl 9 [.string (bs c)] 1 (by first | (go_simp; done) | (go_simp; rfl)) ?_; intro g7 w3 hg7 f3 b7)
          | (go_at_call 31; refine (CS.out _ _ b7).mono ?_; rintro e w4 ⟨rfl, f4⟩))
        go_ret
        exact ⟨by rw [hn.out]; rfl, f3.no f4⟩
    · obtain rfl : i = c.length := by omega
      have hicz : ¬ (c.length : Int) < (c.length : Int) := by omega
      have hn : Kp (nameL c = []) := ⟨by unfold nameL; rw [if_pos (all_zero HZ.out)]⟩
      go_wp2_with fail
      go_ret
      exact ⟨by rw [hn.out]; rfl, Fr.refl _ _⟩
end Go.Proofs.YtaohfmmapammcaaDoor.Ch

/- The document's Fill, its inner loop: the first chunk that is known by a name. Conditions: sizes are bounded, as written out. -/
set_option linter.unusedSimpArgs false
set_option linter.unusedVariables false
namespace Go.Proofs.YtaohfmmapammcaaDoor.Ch
open Go Go.RowKit Go.Proofs.YtaohfmmapammcaaDoorW.PrintWords Go.Proofs.YtaohfmmapammcaaDoor.Reg Go.Proofs.YtaohfmmapammcaaDoor.Sha Go.Proofs.YtaohfmmapammcaaDoor.Dig Go.Proofs.YtaohfmmapammcaaDoor.Ev

noncomputable def bodyRFill : Code := Tryd.f25.body.getD .skip
/-- The first chunk of that name. -/
def lookK (known : List (List UInt8)) (n : List UInt8) : Option (List UInt8) := known.find? fun k => decide (nameL k = n)
theorem lookK_none {known : List (List UInt8)} {n : List UInt8} (h : ∀ (j : Nat) (y : List UInt8), known[j]? = some y → nameL y ≠ n) : lookK known n = none := by
  unfold lookK
  rw [List.find?_eq_none]
  intro y hy
  obtain ⟨j, hj⟩ := List.getElem?_of_mem hy
  simpa using h j y hj
theorem lookK_some {known : List (List UInt8)} {n y : List UInt8} {k : Nat} (h : ∀ (j : Nat) (z : List UInt8), j < k → known[j]? = some z → nameL z ≠ n) (hk : known[k]? = some y) (hy : nameL y = n) : lookK known n = some y := by
  unfold lookK
  obtain ⟨hl, hg⟩ := List.getElem?_eq_some_iff.1 hk
  rw [List.find?_eq_some_iff_getElem]
  refine ⟨by simpa using hy, k, hl, hg, fun j hj => ?_⟩
  have := h j (known[j]) hj (List.getElem?_eq_getElem (by omega))
  simpa using this

set_option maxHeartbeats 8000000 in
set_option maxRecDepth 100000 in
theorem rfill_inner (known : List (List UInt8)) (M : Nat) (hM : M = known.length) (hMb : M ≤ 4096) (hks : ∀ (j : Nat) (y : List UInt8), known[j]? = some y → y.length ≤ 1073741824) (AK : Option Addr) (ck : Nat) (b o N c i : Nat) (size L : Int) (x : List UInt8) (B : Option Addr) (c8 base : Nat) (R : List (List UInt8)) (hi : i < N) (hib : i ≤ 4096)
    (W : World) (u : Nat → Value) (hK : NamesC W AK known) (hx : W.cell? ⟨b, o + i, none⟩ = some (.string (bs x))) (ho : W.ownsRow base 9 1 (.slice B i c8) i (vals R)) (hbase : base ≤ W.heap.size) (Q : Exit → Act → World → Prop)
    (hN : ∀ (u : Nat → Value) ws, Fr No W ws → lookK known x = none → Q .normal { tmps := List.toArray (.slice (some ⟨b, o, none⟩) N c :: .int .i64 size :: .slice AK M ck :: u 3 :: u 4 :: u 5 :: u 6 :: u 7 :: .slice B i c8 :: .int .i64 (i : Int) :: .int .i64 L :: .bool false :: u 12 :: u 13 :: u 14 :: u 15 :: u 16 :: u 17 :: u 18 :: u 19 :: u 20 :: u 21 :: u 22 :: u 23 :: u 24 :: u 25 :: u 26 :: u 27 :: u 28 :: u 29 :: u 30 :: u 31 :: u 32 :: u 33 :: u 34 :: u 35 :: u 36 :: u 37 :: u 38 :: u 39 :: u 40 :: u 41 :: u 42 :: u 43 :: u 44 :: u 45 :: u 46 :: u 47 :: u 48 :: u 49 :: u 50 :: u 51 :: u 52 :: u 53 :: u 54 :: u 55 :: u 56 :: u 57 :: u 58 :: u 59 :: u 60 :: u 61 :: u 62 :: u 63 :: u 64 :: u 65 :: u 66 :: u 67 :: u 68 :: u 69 :: u 70 :: u 71 :: u 72 :: u 73 :: u 74 :: u 75 :: u 76 :: u 77 :: u 78 :: u 79 :: u 80 :: u 81 :: u 82 :: u 83 :: u 84 :: u 85 :: u 86 :: u 87 :: u 88 :: u 89 :: u 90 :: u 91 :: u 92 :: u 93 :: u 94 :: u 95 :: u 96 :: u 97 :: u 98 :: u 99 :: u 100 :: u 101 :: u 102 :: u 103 :: u 104 :: u 105 :: u 106 :: u 107 :: []), defers := [] } ws)
    (hS : ∀ (u : Nat → Value) y B' c' ws, Fr (Ev.Own (.slice B i c8)) W ws → lookK known x = some y → ws.ownsRow base 9 1 (.slice B' (i + 1) c') (i + 1) (vals R ++ [.string (bs y)]) → Q .normal { tmps := List.toArray (.slice (some ⟨b, o, none⟩) N c :: .int .i64 size :: .slice AK M ck :: u 3 :: u 4 :: u 5 :: u 6 :: u 7 :: .slice B' (i + 1) c' :: .int .i64 (i : Int) :: .int .i64 L :: .bool true :: u 12 :: u 13 :: u 14 :: u 15 :: u 16 :: u 17 :: u 18 :: u 19 :: u 20 :: u 21 :: u 22 :: u 23 :: u 24 :: u 25 :: u 26 :: u 27 :: u 28 :: u 29 :: u 30 :: u 31 :: u 32 :: u 33 :: u 34 :: u 35 :: u 36 :: u 37 :: u 38 :: u 39 :: u 40 :: u 41 :: u 42 :: u 43 :: u 44 :: u 45 :: u 46 :: u 47 :: u 48 :: u 49 :: u 50 :: u 51 :: u 52 :: u 53 :: u 54 :: u 55 :: u 56 :: u 57 :: u 58 :: u 59 :: u 60 :: u 61 :: u 62 :: u 63 :: u 64 :: u 65 :: u 66 :: u 67 :: u 68 :: u 69 :: u 70 :: u 71 :: u 72 :: u 73 :: u 74 :: u 75 :: u 76 :: u 77 :: u 78 :: u 79 :: u 80 :: u 81 :: u 82 :: u 83 :: u 84 :: u 85 :: u 86 :: u 87 :: u 88 :: u 89 :: u 90 :: u 91 :: u 92 :: u 93 :: u 94 :: u 95 :: u 96 :: u 97 :: u 98 :: u 99 :: u 100 :: u 101 :: u 102 :: u 103 :: u 104 :: u 105 :: u 106 :: u 107 :: []), defers := [] } ws) :
    Code.wp Tryd.prog (sub [1,1,1,0,1,0,0,1,0,0,1,1,1,1,0,1] bodyRFill) Q { tmps := List.toArray (.slice (some ⟨b, o, none⟩) N c :: .int .i64 size :: .slice AK M ck :: u 3 :: u 4 :: u 5 :: u 6 :: u 7 :: .slice B i c8 :: .int .i64 (i : Int) :: .int .i64 L :: .bool false :: .int .i64 0 :: u 13 :: u 14 :: u 15 :: u 16 :: u 17 :: u 18 :: u 19 :: u 20 :: u 21 :: u 22 :: u 23 :: u 24 :: u 25 :: u 26 :: u 27 :: u 28 :: u 29 :: u 30 :: u 31 :: u 32 :: u 33 :: u 34 :: u 35 :: u 36 :: u 37 :: u 38 :: u 39 :: u 40 :: u 41 :: u 42 :: u 43 :: u 44 :: u 45 :: u 46 :: u 47 :: u 48 :: u 49 :: u 50 :: u 51 :: u 52 :: u 53 :: u 54 :: u 55 :: u 56 :: u 57 :: u 58 :: u 59 :: u 60 :: u 61 :: u 62 :: u 63 :: u 64 :: u 65 :: u 66 :: u 67 :: u 68 :: u 69 :: u 70 :: u 71 :: u 72 :: u 73 :: u 74 :: u 75 :: u 76 :: u 77 :: u 78 :: u 79 :: u 80 :: u 81 :: u 82 :: u 83 :: u 84 :: u 85 :: u 86 :: u 87 :: u 88 :: u 89 :: u 90 :: u 91 :: u 92 :: u 93 :: u 94 :: u 95 :: u 96 :: u 97 :: u 98 :: u 99 :: u 100 :: u 101 :: u 102 :: u 103 :: u 104 :: u 105 :: u 106 :: u 107 :: []), defers := [] } W := by
  conv => arg 2; whnf
  have HNo := Kp.mk hN
  have HSo := Kp.mk hS
  have HK0 := Kp.mk hK
  have HM := Kp.mk hM
  have HX := Kp.mk hx
  have HO := Kp.mk ho
  have HKS := Kp.mk hks
  have hbl : b < W.heap.size := World.block_lt_of_cell? W _ hx
  clear hN hS hK hM hx ho hks
  refine wp_block ?_
  refine wp_loop_ghost_k (fun n a' w' => ∃ (k : Nat) (fd : Bool) (B' : Option Addr) (m' c' : Nat) (u : Nat → Value), (((fd = false ∧ n + k = M + 1 ∧ k ≤ M ∧ B' = B ∧ m' = i ∧ c' = c8 ∧ Fr No W w' ∧ (∀ (j : Nat) (z : List UInt8), j < k → known[j]? = some z → nameL z ≠ x)) ∨ (fd = true ∧ m' = i + 1 ∧ k ≤ M ∧ ∃ y, Fr (Ev.Own (.slice B i c8)) W w' ∧ lookK known x = some y ∧ w'.ownsRow base 9 1 (.slice B' (i + 1) c') (i + 1) (vals R ++ [.string (bs y)])))) ∧ a' = { tmps := List.toArray (.slice (some ⟨b, o, none⟩) N c :: .int .i64 size :: .slice AK M ck :: u 3 :: u 4 :: u 5 :: u 6 :: u 7 :: .slice B' m' c' :: .int .i64 (i : Int) :: .int .i64 L :: .bool fd :: .int .i64 (k : Int) :: u 13 :: u 14 :: u 15 :: u 16 :: u 17 :: u 18 :: u 19 :: u 20 :: u 21 :: u 22 :: u 23 :: u 24 :: u 25 :: u 26 :: u 27 :: u 28 :: u 29 :: u 30 :: u 31 :: u 32 :: u 33 :: u 34 :: u 35 :: u 36 :: u 37 :: u 38 :: u 39 :: u 40 :: u 41 :: u 42 :: u 43 :: u 44 :: u 45 :: u 46 :: u 47 :: u 48 :: u 49 :: u 50 :: u 51 :: u 52 :: u 53 :: u 54 :: u 55 :: u 56 :: u 57 :: u 58 :: u 59 :: u 60 :: u 61 :: u 62 :: u 63 :: u 64 :: u 65 :: u 66 :: u 67 :: u 68 :: u 69 :: u 70 :: u 71 :: u 72 :: u 73 :: u 74 :: u 75 :: u 76 :: u 77 :: u 78 :: u 79 :: u 80 :: u 81 :: u 82 :: u 83 :: u 84 :: u 85 :: u 86 :: u 87 :: u 88 :: u 89 :: u 90 :: u 91 :: u 92 :: u 93 :: u 94 :: u 95 :: u 96 :: u 97 :: u 98 :: u 99 :: u 100 :: u 101 :: u 102 :: u 103 :: u 104 :: u 105 :: u 106 :: u 107 :: []), defers := [] }) (M + 1)
    ⟨0, false, B, i, c8, u, .inl ⟨rfl, rfl, Nat.zero_le _, rfl, rfl, rfl, Fr.refl _ _, fun j _ hj => absurd hj (Nat.not_lt_zero _)⟩, rfl⟩ ?_
  rintro n a' w' ⟨k, fd, B', m', c', u, hrel, rfl⟩ J K hJ hK
  have HJ := Kp.mk hJ
  have HK := Kp.mk hK
  clear hJ hK
  rcases hrel with ⟨rfl, hn, hkM, rfl, rfl, rfl, f, hne⟩ | ⟨rfl, rfl, hkM, y, f, hlk, ho⟩
  · have HN := Kp.mk hn
    have F := Kp.mk f
    have HE := Kp.mk hne
    clear hn f hne
    by_cases hlt : k < M
    · have hltz : (k : Int) < (M : Int) := by omega
      obtain ⟨y, hy⟩ : ∃ y, known[k]? = some y := ⟨_, List.getElem?_eq_getElem (by rw [← HM.out]; exact hlt)⟩
      obtain ⟨bk, ok, rfl, hcc⟩ := HK0.out.out (by rw [← HM.out]; omega)
      have l1 := hcc _ F.out k y hy
      have l2 := Fr.cell HX.out F.out (fun h => h)
      have hyb := HKS.out k y hy
      have HY := Kp.mk hy
      have kz : (0 : Int) ≤ (k : Int) := by omega
      have iz : (0 : Int) ≤ (m' : Int) := by omega
      have miz : (m' : Int) < (N : Int) := by omega
      have fd := (Fr.refl No w').drew
      clear hcc hy
      obtain ⟨T, hT⟩ : ∃ T, T = nameL y := ⟨_, rfl⟩
      have CN : Kp (∀ W, Calls Tryd.prog 22 #[.string (bs y)] W fun e w' => e = .returned (.string (bs T)) ∧ Fr No W w') := ⟨fun W => by rw [hT]; exact rname_any y (by omega) W⟩
      by_cases he : T = x
      · have hlk : Kp (lookK known x = some y) := ⟨lookK_some HE.out HY.out (by rw [← hT]; exact he)⟩
        subst he
        clear hT
        go_wp2_with fail
        refine region_quiet (C := fun w3 => Fr No w' w3) (by kernel_rfl) (by kernel_rfl) fd ?_
        iterate 10 (first
          | ((with_reducible refine gate_q (N := 67) rfl ?_); refine quiet_call (a' := ?_) Tryd.func22 (by kernel_rfl) rfl #[.string (bs y)] (by rfl) rfl (by simp only [List.map_toArray, List.map_cons, List.map_nil]; rfl) (fun w3 hC => (CN.out w3).mono (by rintro e w4 ⟨rfl, f4⟩; exact ⟨rfl, hC.no f4⟩)) ?_ ?_; rotate_left; (simp only [Act.put, List.setIfInBounds_toArray, List.set_cons_zero, List.set_cons_succ]; rfl))
          | (go_big_quiet_step (fail))
          | (refine quiet_val (v := ?_) (a' := ?_) (by rfl) ?_ ?_ ?_; rotate_left; (focus (rintro w3 hf3; have q0 := Fr.cell l1 hf3 (fun h => h); have q1 := Fr.cell l2 hf3 (fun h => h); go_simp; first | done | with_reducible rfl)); rotate_left; (simp only [Act.put, List.setIfInBounds_toArray, List.set_cons_zero, List.set_cons_succ]; rfl)))
        refine wpQuiet_nil ?_
        rintro w3 f3
        have l1 := Fr.cell l1 f3 (fun h => h)
        have hb3 : W.heap.size ≤ w3.heap.size := Nat.le_trans F.out.size f3.size
        clear l2 fd
        go_wp2_with (first
          | ((with_reducible refine gate_dst (N := 78) rfl ?_); refine ev_lit rfl 9 [.string (bs y)] 1 (by first | (go_simp; done) | (go_simp; rfl)) ?_; intro gl w5 hgl f5 bl)
          | ((with_reducible refine gate_dst (N := 79) rfl ?_); refine ev_append rfl (.tmp 73) (.tmp 78) 35 9 (.string ⟨#[]⟩) 1 16 rfl Tryd.underlying35 infoStr rfl (by decide) (by decide) base _ _ _ rfl (own_no (own_no (own_no HO.out F.out) f3) f5) (by have := f5.size; omega) ⟨gl, 0, none⟩ 1 1 _ rfl rfl (news_blk bl) (by simp [Value.oneCell']) (by omega) ?_; intro A2 c2 w6 o6 f6 hat))
        refine HK.out _ _ (Handed.intro (n - 1) (by have := HN.out; omega) (HJ.out _ _ _ ⟨k + 1, true, A2, m' + 1, c2, ex_u (.inr ⟨rfl, rfl, by omega, y, (((F.out.no f3).no f5).mono (fun i h => h.elim)).trans f6 (fun i h => .inl h), hlk.out, o6⟩) rfl⟩))
      · have HE2 : Kp (∀ (j : Nat) (z : List UInt8), j < k + 1 → known[j]? = some z → nameL z ≠ x) := ⟨fun j z hj hz => by
          by_cases e : j = k
          · subst e
            rw [HY.out] at hz
            cases hz
            rw [← hT]; exact he
          · exact HE.out j z (by omega) hz⟩
        have heb : (T == x) = false := by simpa using he
        have hed : decide (T = x) = false := by simpa using he
        clear hT
        go_wp2_with fail
        refine region_quiet (C := fun w3 => Fr No w' w3) (by kernel_rfl) (by kernel_rfl) fd ?_
        iterate 10 (first
          | ((with_reducible refine gate_q (N := 67) rfl ?_); refine quiet_call (a' := ?_) Tryd.func22 (by kernel_rfl) rfl #[.string (bs y)] (by rfl) rfl (by simp only [List.map_toArray, List.map_cons, List.map_nil]; rfl) (fun w3 hC => (CN.out w3).mono (by rintro e w4 ⟨rfl, f4⟩; exact ⟨rfl, hC.no f4⟩)) ?_ ?_; rotate_left; (simp only [Act.put, List.setIfInBounds_toArray, List.set_cons_zero, List.set_cons_succ]; rfl))
          | (go_big_quiet_step (fail))
          | (refine quiet_val (v := ?_) (a' := ?_) (by rfl) ?_ ?_ ?_; rotate_left; (focus (rintro w3 hf3; have q0 := Fr.cell l1 hf3 (fun h => h); have q1 := Fr.cell l2 hf3 (fun h => h); go_simp; first | done | with_reducible rfl)); rotate_left; (simp only [Act.put, List.setIfInBounds_toArray, List.set_cons_zero, List.set_cons_succ]; rfl)))
        refine wpQuiet_nil ?_
        rintro w3 f3
        clear l1 l2 fd
        go_wp2_with fail
        refine HK.out _ _ (Handed.intro (n - 1) (by have := HN.out; omega) (HJ.out _ _ _ ⟨k + 1, false, B', m', c', ex_u (.inl ⟨rfl, by have := HN.out; omega, by omega, rfl, rfl, rfl, F.out.no f3, HE2.out⟩) rfl⟩))
    · obtain rfl : k = M := by omega
      have hltz : ¬ (k : Int) < (k : Int) := by omega
      have hln : Kp (lookK known x = none) := ⟨lookK_none fun j z hz => HE.out j z (by have := (List.getElem?_eq_some_iff.1 hz).1; rw [HM.out]; exact this) hz⟩
      go_wp2_with fail
      exact K_u (fun u => HNo.out u _ F.out hln.out) rfl
  · have F := Kp.mk f
    have HL := Kp.mk hlk
    have HO2 := Kp.mk ho
    clear f hlk ho
    by_cases hlt : k < M
    · have hltz : (k : Int) < (M : Int) := by omega
      go_wp2_with fail
      exact K_u (fun u => HSo.out u y B' c' _ F.out HL.out HO2.out) rfl
    · have hltz : ¬ (k : Int) < (M : Int) := by omega
      go_wp2_with fail
      exact K_u (fun u => HSo.out u y B' c' _ F.out HL.out HO2.out) rfl
end Go.Proofs.YtaohfmmapammcaaDoor.Ch

/- The document's Fill. Conditions: sizes are bounded, as written out. -/
set_option linter.unusedSimpArgs false
set_option linter.unusedVariables false
namespace Go.Proofs.YtaohfmmapammcaaDoor.Ch
open Go Go.RowKit Go.Proofs.YtaohfmmapammcaaDoorW.PrintWords Go.Proofs.YtaohfmmapammcaaDoor.Reg Go.Proofs.YtaohfmmapammcaaDoor.Sha Go.Proofs.YtaohfmmapammcaaDoor.Dig Go.Proofs.YtaohfmmapammcaaDoor.Ev

/-- 'make([]byte, n)'. -/
theorem ev_make {P : Program} {ops : Array Oper} {rest : List Oper} {o : Oper} {a : Act} {Q : Exit → Act → World → Prop} {W : World} (hgd : o.guard = none) (l c : Operand) (t e : TypeId) (ho : o.op = .makeSlice t l c) (n : Nat) (hl : a.eval l = .int .i64 (n : Int)) (hc : a.eval c = .int .i64 (n : Int))
    (ht : P.underlying t = some (.slice e)) (z : Value) (bytes : Nat) (hinfo : (P.info? e).map (fun i => (i.zero, i.size, i.bytes)) = some (some z, 1, bytes)) (hz : z.cells = #[z]) (hn : bytes * n ≤ 281474976710656) (hm : n ≤ 1099511627776)
    (h : ∀ w1, Fr No W w1 → w1.ownsRow W.heap.size e 1 (.slice (some ⟨W.heap.size, 0, none⟩) n n) n (List.replicate n z) → wpList P ops Q rest (a.put o.dst (.slice (some ⟨W.heap.size, 0, none⟩) n n)) w1) : wpList P ops Q (o :: rest) a W := by
  obtain ⟨i0, hi, hzz⟩ := Option.map_eq_some_iff.1 hinfo
  simp only [Prod.mk.injEq] at hzz
  obtain ⟨hz0, hz1, hz2⟩ := hzz
  obtain ⟨w1, hr, ho1, hg1⟩ := run_make_full (P := P) W W.heap.size t e i0 z 1 ht hi hz0 hz1 .i64 .i64 n (by rw [hz2]; exact hn) (by simp only [maxLen]; omega) (Nat.le_refl _)
  rw [hz, Nat.mul_one, toList_madeCells_one] at ho1
  refine run_value hgd ?_ (h w1 (Fr.of_grown hg1 |>.mono (fun k hk => by cases hk)) ho1)
  simp [execOp, ho, hl, hc, hr, Sem.run_bind, Result.andThen]
theorem infoByte : (Tryd.prog.info? 5).map (fun i => (i.zero, i.size, i.bytes)) = some (some (.int .u8 0), 1, 1) := by kernel_rfl

set_option maxHeartbeats 8000000 in
set_option maxRecDepth 100000 in
theorem rfill_round (known : List (List UInt8)) (M : Nat) (hM : M = known.length) (hMb : M ≤ 4096) (hks : ∀ (j : Nat) (y : List UInt8), known[j]? = some y → y.length ≤ 1073741824) (AK : Option Addr) (ck : Nat) (b o N c i q : Nat) (size : Int) (x : List UInt8) (B : Option Addr) (c8 base : Nat) (R : List (List UInt8)) (hi : i < N) (hib : i ≤ 4096) (hs1 : size ≤ 4096) (hq : lenF size i = (q : Int))
    (W : World) (u : Nat → Value) (hK : NamesC W AK known) (hx : W.cell? ⟨b, o + i, none⟩ = some (.string (bs x))) (ho : W.ownsRow base 9 1 (.slice B i c8) i (vals R)) (hbase : base ≤ W.heap.size) (Q : Exit → Act → World → Prop)
    (hN : ∀ (u : Nat → Value) ws, Fr No W ws → oneF (lookK known) size i x = none → Q .ret { tmps := List.toArray (.slice (some ⟨b, o, none⟩) N c :: .int .i64 size :: .slice AK M ck :: u 3 :: u 4 :: u 5 :: .string ⟨#[]⟩ :: .int .i64 4 :: u 8 :: u 9 :: u 10 :: u 11 :: u 12 :: u 13 :: u 14 :: u 15 :: u 16 :: u 17 :: u 18 :: u 19 :: u 20 :: u 21 :: u 22 :: u 23 :: u 24 :: u 25 :: u 26 :: u 27 :: u 28 :: u 29 :: u 30 :: u 31 :: u 32 :: u 33 :: u 34 :: u 35 :: u 36 :: u 37 :: u 38 :: u 39 :: u 40 :: u 41 :: u 42 :: u 43 :: u 44 :: u 45 :: u 46 :: u 47 :: u 48 :: u 49 :: u 50 :: u 51 :: u 52 :: u 53 :: u 54 :: u 55 :: u 56 :: u 57 :: u 58 :: u 59 :: u 60 :: u 61 :: u 62 :: u 63 :: u 64 :: u 65 :: u 66 :: u 67 :: u 68 :: u 69 :: u 70 :: u 71 :: u 72 :: u 73 :: u 74 :: u 75 :: u 76 :: u 77 :: u 78 :: u 79 :: u 80 :: u 81 :: u 82 :: u 83 :: u 84 :: u 85 :: u 86 :: u 87 :: u 88 :: u 89 :: u 90 :: u 91 :: u 92 :: u 93 :: u 94 :: u 95 :: u 96 :: u 97 :: u 98 :: u 99 :: u 100 :: u 101 :: u 102 :: u 103 :: u 104 :: u 105 :: u 106 :: u 107 :: []), defers := [] } ws)
    (hS : ∀ (u : Nat → Value) y B' c' ws, Fr (Ev.Own (.slice B i c8)) W ws → oneF (lookK known) size i x = some y → ws.ownsRow base 9 1 (.slice B' (i + 1) c') (i + 1) (vals R ++ [.string (bs y)]) → Q .normal { tmps := List.toArray (.slice (some ⟨b, o, none⟩) N c :: .int .i64 size :: .slice AK M ck :: u 3 :: u 4 :: u 5 :: u 6 :: u 7 :: .slice B' (i + 1) c' :: .int .i64 (i : Int) :: u 10 :: u 11 :: u 12 :: u 13 :: u 14 :: u 15 :: u 16 :: u 17 :: u 18 :: u 19 :: u 20 :: u 21 :: u 22 :: u 23 :: u 24 :: u 25 :: u 26 :: u 27 :: u 28 :: u 29 :: u 30 :: u 31 :: u 32 :: u 33 :: u 34 :: u 35 :: u 36 :: u 37 :: u 38 :: u 39 :: u 40 :: u 41 :: u 42 :: u 43 :: u 44 :: u 45 :: u 46 :: u 47 :: u 48 :: u 49 :: u 50 :: u 51 :: u 52 :: u 53 :: u 54 :: u 55 :: u 56 :: u 57 :: u 58 :: u 59 :: u 60 :: u 61 :: u 62 :: u 63 :: u 64 :: u 65 :: u 66 :: u 67 :: u 68 :: u 69 :: u 70 :: u 71 :: u 72 :: u 73 :: u 74 :: u 75 :: u 76 :: u 77 :: u 78 :: u 79 :: u 80 :: u 81 :: u 82 :: u 83 :: u 84 :: u 85 :: u 86 :: u 87 :: u 88 :: u 89 :: u 90 :: u 91 :: u 92 :: u 93 :: u 94 :: u 95 :: u 96 :: u 97 :: u 98 :: u 99 :: u 100 :: u 101 :: u 102 :: u 103 :: u 104 :: u 105 :: u 106 :: u 107 :: []), defers := [] } ws) :
    Code.wp Tryd.prog (sub [1,1,1,0,1,0,0,1,0] bodyRFill) Q { tmps := List.toArray (.slice (some ⟨b, o, none⟩) N c :: .int .i64 size :: .slice AK M ck :: u 3 :: u 4 :: u 5 :: u 6 :: u 7 :: .slice B i c8 :: .int .i64 (i : Int) :: u 10 :: u 11 :: u 12 :: u 13 :: u 14 :: u 15 :: u 16 :: u 17 :: u 18 :: u 19 :: u 20 :: u 21 :: u 22 :: u 23 :: u 24 :: u 25 :: u 26 :: u 27 :: u 28 :: u 29 :: u 30 :: u 31 :: u 32 :: u 33 :: u 34 :: u 35 :: u 36 :: u 37 :: u 38 :: u 39 :: u 40 :: u 41 :: u 42 :: u 43 :: u 44 :: u 45 :: u 46 :: u 47 :: u 48 :: u 49 :: u 50 :: u 51 :: u 52 :: u 53 :: u 54 :: u 55 :: u 56 :: u 57 :: u 58 :: u 59 :: u 60 :: u 61 :: u 62 :: u 63 :: u 64 :: u 65 :: u 66 :: u 67 :: u 68 :: u 69 :: u 70 :: u 71 :: u 72 :: u 73 :: u 74 :: u 75 :: u 76 :: u 77 :: u 78 :: u 79 :: u 80 :: u 81 :: u 82 :: u 83 :: u 84 :: u 85 :: u 86 :: u 87 :: u 88 :: u 89 :: u 90 :: u 91 :: u 92 :: u 93 :: u 94 :: u 95 :: u 96 :: u 97 :: u 98 :: u 99 :: u 100 :: u 101 :: u 102 :: u 103 :: u 104 :: u 105 :: u 106 :: u 107 :: []), defers := [] } W := by
  conv => arg 2; whnf
  have HNo := Kp.mk hN
  have HSo := Kp.mk hS
  have HK0 := Kp.mk hK
  have HX := Kp.mk hx
  have HO := Kp.mk ho
  have hmz : (i : Int) < (N : Int) := by omega
  have hi4 : (i : Int) ≤ 4096 := by omega
  have hi0 : (0 : Int) ≤ 16 * (i : Int) := by omega
  have hq16 : q ≤ 16 := by have := lenF_le size i; omega
  have HQ := Kp.mk hq
  have HM := Kp.mk hM
  have hq2 := hq
  unfold lenF at hq2
  have hpz : (0 : Int) ≤ size - 16 * (i : Int) := by omega
  clear hN hS hK ho hq hM
  by_cases hxe : x = []
  · subst hxe
    have hy : Kp (oneF (lookK known) size i [] = some (List.replicate q 0)) := ⟨by
      unfold oneF
      rw [if_pos rfl, HQ.out]
      rfl⟩
    have hcells : List.replicate q (Value.int .u8 0) = (List.replicate q (0 : UInt8)).map fun b => Value.int .u8 b.toNat := by simp
    have HCE := Kp.mk hcells
    clear hcells
    obtain ⟨Z, hZ⟩ : ∃ Z, Z = List.replicate q (0 : UInt8) := ⟨_, rfl⟩
    rw [← hZ] at hy HCE
    clear hZ
    refine wp_block ?_
    by_cases h16 : 16 < size - 16 * (i : Int)
    · obtain rfl : q = 16 := by omega
      clear hq2
      skip
      go_wp2_with (first
        | ((with_reducible refine gate_dst (N := 49) rfl ?_); refine ev_make rfl (.tmp 48) (.tmp 48) 49 5 rfl 16 rfl rfl Tryd.underlying49 (.int .u8 0) 1 infoByte rfl (by omega) (by omega) ?_; intro w2 f2 o2; rw [HCE.out] at o2)
        | ((with_reducible refine gate_dst (N := 50) rfl ?_); refine ev_str rfl 49 9 5 (.tmp 49) rfl Tryd.underlying49 Tryd.underlying5 Tryd.underlying9 _ _ _ 5 Z rfl o2 ?_)
        | ((with_reducible refine gate_dst (N := 51) rfl ?_); refine ev_lit rfl 9 [.string (bs Z)] 1 (by first | (go_simp; done) | (go_simp; rfl)) ?_; intro gl w5 hgl f5 bl)
        | ((with_reducible refine gate_dst (N := 52) rfl ?_); refine ev_append rfl (.tmp 47) (.tmp 51) 35 9 (.string ⟨#[]⟩) 1 16 rfl Tryd.underlying35 infoStr rfl (by decide) (by decide) base _ _ _ rfl (own_no (own_no HO.out f2) f5) (by have := f2.size; have := f5.size; omega) ⟨gl, 0, none⟩ 1 1 _ rfl rfl (news_blk bl) (by simp [Value.oneCell']) (by omega) ?_; intro A2 c2 w6 o6 f6 hat))
      exact K_u (K := Q .normal) (fun u => HSo.out u _ _ _ _ (((f2.no f5).mono (fun i h => h.elim)).trans f6 (fun i h => .inl h)) hy.out o6) rfl
    · have hqq : size - 16 * (i : Int) = (q : Int) := by omega
      have h16z : (q : Int) ≤ 16 := by omega
      clear hq2
      go_wp2_with (first
        | ((with_reducible refine gate_dst (N := 49) rfl ?_); refine ev_make rfl (.tmp 48) (.tmp 48) 49 5 rfl q rfl rfl Tryd.underlying49 (.int .u8 0) 1 infoByte rfl (by omega) (by omega) ?_; intro w2 f2 o2; rw [HCE.out] at o2)
        | ((with_reducible refine gate_dst (N := 50) rfl ?_); refine ev_str rfl 49 9 5 (.tmp 49) rfl Tryd.underlying49 Tryd.underlying5 Tryd.underlying9 _ _ _ 5 Z rfl o2 ?_)
        | ((with_reducible refine gate_dst (N := 51) rfl ?_); refine ev_lit rfl 9 [.string (bs Z)] 1 (by first | (go_simp; done) | (go_simp; rfl)) ?_; intro gl w5 hgl f5 bl)
        | ((with_reducible refine gate_dst (N := 52) rfl ?_); refine ev_append rfl (.tmp 47) (.tmp 51) 35 9 (.string ⟨#[]⟩) 1 16 rfl Tryd.underlying35 infoStr rfl (by decide) (by decide) base _ _ _ rfl (own_no (own_no HO.out f2) f5) (by have := f2.size; have := f5.size; omega) ⟨gl, 0, none⟩ 1 1 _ rfl rfl (news_blk bl) (by simp [Value.oneCell']) (by omega) ?_; intro A2 c2 w6 o6 f6 hat))
      exact K_u (K := Q .normal) (fun u => HSo.out u _ _ _ _ (((f2.no f5).mono (fun i h => h.elim)).trans f6 (fun i h => .inl h)) hy.out o6) rfl
  · have hxl : x.isEmpty = false := by cases x with | nil => exact absurd rfl hxe | cons _ _ => rfl
    have hoe : Kp (oneF (lookK known) size i x = lookK known x) := ⟨by unfold oneF; rw [if_neg hxe]⟩
    clear hxe
    refine wp_block ?_
    by_cases h16 : 16 < size - 16 * (i : Int)
    · clear hq2
      go_upto_block 2 with fail
      refine wp_u (fun u => rfill_inner known M HM.out hMb hks AK ck b o N c i size 16 x B c8 base R hi hib W u HK0.out HX.out HO.out hbase _ ?_ ?_) rfl
      · intro u ws fs hl
        have hl := Kp.mk (hoe.out.trans hl)
        clear hx
        go_wp2_with fail
        exact K_u (K := Q .ret) (fun u => HNo.out u ws fs hl.out) rfl
      · intro u y B' c' ws fs hl ho
        have hl := Kp.mk (hoe.out.trans hl)
        have HO' := Kp.mk ho
        clear hx ho
        go_wp2_with fail
        exact K_u (K := Q .normal) (fun u => HSo.out u y B' c' ws fs hl.out HO'.out) rfl
    · have hqq : size - 16 * (i : Int) = (q : Int) := by omega
      have h16z : (q : Int) ≤ 16 := by omega
      clear hq2
      go_upto_block 2 with fail
      refine wp_u (fun u => rfill_inner known M HM.out hMb hks AK ck b o N c i size (q : Int) x B c8 base R hi hib W u HK0.out HX.out HO.out hbase _ ?_ ?_) rfl
      · intro u ws fs hl
        have hl := Kp.mk (hoe.out.trans hl)
        clear hx
        go_wp2_with fail
        exact K_u (K := Q .ret) (fun u => HNo.out u ws fs hl.out) rfl
      · intro u y B' c' ws fs hl ho
        have hl := Kp.mk (hoe.out.trans hl)
        have HO' := Kp.mk ho
        clear hx ho
        go_wp2_with fail
        exact K_u (K := Q .normal) (fun u => HSo.out u y B' c' ws fs hl.out HO'.out) rfl

set_option maxHeartbeats 8000000 in
set_option maxRecDepth 100000 in
theorem rfill_loop1 (known : List (List UInt8)) (M : Nat) (hM : M = known.length) (hMb : M ≤ 4096) (hks : ∀ (j : Nat) (y : List UInt8), known[j]? = some y → y.length ≤ 1073741824) (AK : Option Addr) (ck : Nat) (names : List (List UInt8)) (N : Nat) (hN : N = names.length) (hNb : N ≤ 4096) (A : Option Addr) (c : Nat) (size : Int) (hs0 : 0 ≤ size) (hs1 : size ≤ 4096) (hNs : (N : Int) = (size + 15) / 16)
    (W : World) (hK : NamesC W AK known) (hX : NamesC W A names) (u : Nat → Value) (Q : Exit → Act → World → Prop)
    (hR : ∀ (u : Nat → Value) ws, Fr No W ws → ¬ allF (lookK known) size names → Q .ret { tmps := List.toArray (.slice A N c :: .int .i64 size :: .slice AK M ck :: u 3 :: u 4 :: u 5 :: .string ⟨#[]⟩ :: .int .i64 4 :: u 8 :: u 9 :: u 10 :: u 11 :: u 12 :: u 13 :: u 14 :: u 15 :: u 16 :: u 17 :: u 18 :: u 19 :: u 20 :: u 21 :: u 22 :: u 23 :: u 24 :: u 25 :: u 26 :: u 27 :: u 28 :: u 29 :: u 30 :: u 31 :: u 32 :: u 33 :: u 34 :: u 35 :: u 36 :: u 37 :: u 38 :: u 39 :: u 40 :: u 41 :: u 42 :: u 43 :: u 44 :: u 45 :: u 46 :: u 47 :: u 48 :: u 49 :: u 50 :: u 51 :: u 52 :: u 53 :: u 54 :: u 55 :: u 56 :: u 57 :: u 58 :: u 59 :: u 60 :: u 61 :: u 62 :: u 63 :: u 64 :: u 65 :: u 66 :: u 67 :: u 68 :: u 69 :: u 70 :: u 71 :: u 72 :: u 73 :: u 74 :: u 75 :: u 76 :: u 77 :: u 78 :: u 79 :: u 80 :: u 81 :: u 82 :: u 83 :: u 84 :: u 85 :: u 86 :: u 87 :: u 88 :: u 89 :: u 90 :: u 91 :: u 92 :: u 93 :: u 94 :: u 95 :: u 96 :: u 97 :: u 98 :: u 99 :: u 100 :: u 101 :: u 102 :: u 103 :: u 104 :: u 105 :: u 106 :: u 107 :: []), defers := [] } ws)
    (hQ : ∀ (u : Nat → Value) B c9 ws, Fr No W ws → allF (lookK known) size names → ws.ownsRow W.heap.size 9 1 (.slice B N c9) N (vals (gotF (lookK known) size names)) → Q .normal { tmps := List.toArray (.slice A N c :: .int .i64 size :: .slice AK M ck :: u 3 :: u 4 :: u 5 :: u 6 :: u 7 :: .slice B N c9 :: u 9 :: u 10 :: u 11 :: u 12 :: u 13 :: u 14 :: u 15 :: u 16 :: u 17 :: u 18 :: u 19 :: u 20 :: u 21 :: u 22 :: u 23 :: u 24 :: u 25 :: u 26 :: u 27 :: u 28 :: u 29 :: u 30 :: u 31 :: u 32 :: u 33 :: u 34 :: u 35 :: u 36 :: u 37 :: u 38 :: u 39 :: u 40 :: u 41 :: u 42 :: u 43 :: u 44 :: u 45 :: u 46 :: u 47 :: u 48 :: u 49 :: u 50 :: u 51 :: u 52 :: u 53 :: u 54 :: u 55 :: u 56 :: u 57 :: u 58 :: u 59 :: u 60 :: u 61 :: u 62 :: u 63 :: u 64 :: u 65 :: u 66 :: u 67 :: u 68 :: u 69 :: u 70 :: u 71 :: u 72 :: u 73 :: u 74 :: u 75 :: u 76 :: u 77 :: u 78 :: u 79 :: u 80 :: u 81 :: u 82 :: u 83 :: u 84 :: u 85 :: u 86 :: u 87 :: u 88 :: u 89 :: u 90 :: u 91 :: u 92 :: u 93 :: u 94 :: u 95 :: u 96 :: u 97 :: u 98 :: u 99 :: u 100 :: u 101 :: u 102 :: u 103 :: u 104 :: u 105 :: u 106 :: u 107 :: []), defers := [] } ws) :
    Code.wp Tryd.prog (sub [1,1,1,0,1] bodyRFill) Q { tmps := List.toArray (.slice A N c :: .int .i64 size :: .slice AK M ck :: u 3 :: u 4 :: u 5 :: u 6 :: u 7 :: .slice none 0 0 :: .int .i64 0 :: u 10 :: u 11 :: u 12 :: u 13 :: u 14 :: u 15 :: u 16 :: u 17 :: u 18 :: u 19 :: u 20 :: u 21 :: u 22 :: u 23 :: u 24 :: u 25 :: u 26 :: u 27 :: u 28 :: u 29 :: u 30 :: u 31 :: u 32 :: u 33 :: u 34 :: u 35 :: u 36 :: u 37 :: u 38 :: u 39 :: u 40 :: u 41 :: u 42 :: u 43 :: u 44 :: u 45 :: u 46 :: u 47 :: u 48 :: u 49 :: u 50 :: u 51 :: u 52 :: u 53 :: u 54 :: u 55 :: u 56 :: u 57 :: u 58 :: u 59 :: u 60 :: u 61 :: u 62 :: u 63 :: u 64 :: u 65 :: u 66 :: u 67 :: u 68 :: u 69 :: u 70 :: u 71 :: u 72 :: u 73 :: u 74 :: u 75 :: u 76 :: u 77 :: u 78 :: u 79 :: u 80 :: u 81 :: u 82 :: u 83 :: u 84 :: u 85 :: u 86 :: u 87 :: u 88 :: u 89 :: u 90 :: u 91 :: u 92 :: u 93 :: u 94 :: u 95 :: u 96 :: u 97 :: u 98 :: u 99 :: u 100 :: u 101 :: u 102 :: u 103 :: u 104 :: u 105 :: u 106 :: u 107 :: []), defers := [] } W := by
  conv => arg 2; whnf
  have HQ := Kp.mk hQ
  have HR := Kp.mk hR
  have HX := Kp.mk hX
  have HK0 := Kp.mk hK
  have HN0 := Kp.mk hN
  have HS := Kp.mk hNs
  have HM := Kp.mk hM
  clear hQ hR hX hK hN hNs hM
  refine wp_block ?_
  refine wp_loop_ghost_k (fun n a' w' => ∃ (i : Nat) (B : Option Addr) (c9 : Nat) (u : Nat → Value), (n + i = N ∧ Fr No W w' ∧ w'.ownsRow W.heap.size 9 1 (.slice B i c9) i (vals ((gotF (lookK known) size names).take i)) ∧ (∀ (j : Nat) (x : List UInt8), j < i → names[j]? = some x → (oneF (lookK known) size j x).isSome)) ∧ a' = { tmps := List.toArray (.slice A N c :: .int .i64 size :: .slice AK M ck :: u 3 :: u 4 :: u 5 :: u 6 :: u 7 :: .slice B i c9 :: .int .i64 (i : Int) :: u 10 :: u 11 :: u 12 :: u 13 :: u 14 :: u 15 :: u 16 :: u 17 :: u 18 :: u 19 :: u 20 :: u 21 :: u 22 :: u 23 :: u 24 :: u 25 :: u 26 :: u 27 :: u 28 :: u 29 :: u 30 :: u 31 :: u 32 :: u 33 :: u 34 :: u 35 :: u 36 :: u 37 :: u 38 :: u 39 :: u 40 :: u 41 :: u 42 :: u 43 :: u 44 :: u 45 :: u 46 :: u 47 :: u 48 :: u 49 :: u 50 :: u 51 :: u 52 :: u 53 :: u 54 :: u 55 :: u 56 :: u 57 :: u 58 :: u 59 :: u 60 :: u 61 :: u 62 :: u 63 :: u 64 :: u 65 :: u 66 :: u 67 :: u 68 :: u 69 :: u 70 :: u 71 :: u 72 :: u 73 :: u 74 :: u 75 :: u 76 :: u 77 :: u 78 :: u 79 :: u 80 :: u 81 :: u 82 :: u 83 :: u 84 :: u 85 :: u 86 :: u 87 :: u 88 :: u 89 :: u 90 :: u 91 :: u 92 :: u 93 :: u 94 :: u 95 :: u 96 :: u 97 :: u 98 :: u 99 :: u 100 :: u 101 :: u 102 :: u 103 :: u 104 :: u 105 :: u 106 :: u 107 :: []), defers := [] }) N
    ⟨0, none, 0, u, ⟨rfl, Fr.refl _ _, World.ownsRow_nil _ _ _ _, fun j _ hj => absurd hj (Nat.not_lt_zero _)⟩, rfl⟩ ?_
  rintro n a' w' ⟨i, B, c9, u, ⟨hn, f, ho, hall⟩, rfl⟩ J K hJ hK
  have HJ := Kp.mk hJ
  have HK := Kp.mk hK
  have F := Kp.mk f
  have HN := Kp.mk hn
  have HO := Kp.mk ho
  have HA := Kp.mk hall
  clear hJ hK f hn ho hall
  by_cases hlt : i < N
  · have hltz : (i : Int) < (N : Int) := by omega
    obtain ⟨x, hx⟩ : ∃ x, names[i]? = some x := ⟨_, List.getElem?_eq_getElem (by rw [← HN0.out]; exact hlt)⟩
    obtain ⟨b, o, rfl, hcc⟩ := HX.out.out (by rw [← HN0.out]; omega)
    have l1 := hcc _ F.out i x hx
    have hb : W.heap.size ≤ w'.heap.size := F.out.size
    have hKw : NamesC w' AK known := ⟨fun h0 => by
      obtain ⟨b, o, h1, h2⟩ := HK0.out.out h0
      exact ⟨b, o, h1, fun W' f => h2 W' (F.out.no f)⟩⟩
    have hpos : 1 ≤ size - 16 * (i : Int) := by have := HS.out; omega
    obtain ⟨q, hq⟩ : ∃ q : Nat, lenF size i = (q : Int) := ⟨(lenF size i).toNat, by unfold lenF; omega⟩
    have NXT : ∀ y, oneF (lookK known) size i x = some y → vals ((gotF (lookK known) size names).take (i + 1)) = vals ((gotF (lookK known) size names).take i) ++ [.string (bs y)] := fun y hy => gotF_take _ size names i x y hx hy
    have ALL : ∀ y, oneF (lookK known) size i x = some y → ∀ (j : Nat) (z : List UInt8), j < i + 1 → names[j]? = some z → (oneF (lookK known) size j z).isSome := fun y hy j z hj hz => by
      by_cases e : j = i
      · subst e
        rw [hx] at hz
        cases hz
        rw [hy]; rfl
      · exact HA.out j z (by omega) hz
    have NO : oneF (lookK known) size i x = none → ¬ allF (lookK known) size names := fun h1 h2 => by
      have := h2 i x hx
      rw [h1] at this
      cases this
    have NXT := Kp.mk NXT
    have ALL := Kp.mk ALL
    have NO := Kp.mk NO
    have L1 := Kp.mk l1
    have HKW := Kp.mk hKw
    clear hcc hx HX l1 hKw hpos
    go_upto_block 1 with fail
    refine wp_u (fun u => rfill_round known M HM.out hMb hks AK ck b o N c i q size x B c9 W.heap.size ((gotF (lookK known) size names).take i) hlt (by omega) hs1 hq w' u HKW.out L1.out HO.out hb _ ?_ ?_) rfl
    · intro u ws fs hnone
      have hna := Kp.mk (NO.out hnone)
      clear hnone hq
      go_wp2_with fail
      exact K_u (K := Q .ret) (fun u => HR.out u _ (F.out.no fs) hna.out) rfl
    · intro u y B' c' ws fs hy ho
      have HNX := Kp.mk (NXT.out y hy)
      have HAL := Kp.mk (ALL.out y hy)
      have HO' := Kp.mk ho
      clear hy ho hq
      go_wp2_with fail
      refine HK.out _ _ (Handed.intro (n - 1) (by have := HN.out; omega) (HJ.out _ _ _ ⟨i + 1, B', c', ex_u ⟨by have := HN.out; omega, F.out.trans fs (fun k hk => .inr (own_new_base HO.out k hk)), by rw [HNX.out]; exact HO'.out, HAL.out⟩ rfl⟩))
  · obtain rfl : i = N := by have := HN.out; omega
    have hltz : ¬ (i : Int) < (i : Int) := by omega
    have hga : (gotF (lookK known) size names).take i = gotF (lookK known) size names := List.take_of_length_le (by rw [gotF_len, HN0.out]; exact Nat.le_refl _)
    rw [hga] at HO
    have hal : Kp (allF (lookK known) size names) := ⟨fun j z hz => HA.out j z (by have := (List.getElem?_eq_some_iff.1 hz).1; rw [HN0.out]; exact this) hz⟩
    clear hga HX
    go_wp2_with fail
    exact K_u (fun u => HQ.out u B c9 _ F.out hal.out HO.out) rfl
end Go.Proofs.YtaohfmmapammcaaDoor.Ch

/- The document's Fill, whole. Conditions: sizes are bounded, as written out. -/
set_option linter.unusedSimpArgs false
set_option linter.unusedVariables false
namespace Go.Proofs.YtaohfmmapammcaaDoor.Ch
open Go Go.RowKit Go.Proofs.YtaohfmmapammcaaDoorW.PrintWords Go.Proofs.YtaohfmmapammcaaDoor.Reg Go.Proofs.YtaohfmmapammcaaDoor.Sha Go.Proofs.YtaohfmmapammcaaDoor.Dig Go.Proofs.YtaohfmmapammcaaDoor.Ev

theorem flat_take (cs : List (List UInt8)) (i : Nat) (y : List UInt8) (h : cs[i]? = some y) : (cs.take (i + 1)).flatten = (cs.take i).flatten ++ y := by
  rw [List.take_add_one, h]
  simp
theorem flat_len (cs : List (List UInt8)) (i : Nat) (size : Int) (h : ∀ (j : Nat) (y : List UInt8), j < i → cs[j]? = some y → (y.length : Int) = lenF size j) : (cs.take i).flatten.length ≤ 16 * i := by
  induction i with
  | zero => simp
  | succ i ih =>
    have := ih (fun j y hj hy => h j y (by omega) hy)
    cases hc : cs[i]? with
    | none =>
      rw [List.take_add_one, hc]
      simp only [Option.toList_none, List.append_nil]
      omega
    | some y =>
      rw [flat_take cs i y hc, List.length_append]
      have h1 := h i y (by omega) hc
      have h2 := lenF_le size i
      omega

set_option maxHeartbeats 8000000 in
set_option maxRecDepth 100000 in
theorem rfill_loop3 (cs : List (List UInt8)) (N : Nat) (hN : N = cs.length) (hNb : N ≤ 4096) (A AK B : Option Addr) (M c ck c9 base : Nat) (size : Int) (hs0 : 0 ≤ size) (hs1 : size ≤ 4096)
    (W : World) (u : Nat → Value) (ho : W.ownsRow base 9 1 (.slice B N c9) N (vals cs)) (hcs : ∀ (i : Nat) (y : List UInt8), cs[i]? = some y → y.length ≤ 1073741824) (Q : Exit → Act → World → Prop)
    (hR : ∀ (u : Nat → Value), ¬ okF size cs → Q .ret { tmps := List.toArray (.slice A N c :: .int .i64 size :: .slice AK M ck :: u 3 :: u 4 :: u 5 :: .string ⟨#[]⟩ :: .int .i64 2 :: u 8 :: u 9 :: u 10 :: u 11 :: u 12 :: u 13 :: u 14 :: u 15 :: u 16 :: u 17 :: u 18 :: u 19 :: u 20 :: u 21 :: u 22 :: u 23 :: u 24 :: u 25 :: u 26 :: u 27 :: u 28 :: u 29 :: u 30 :: u 31 :: u 32 :: u 33 :: u 34 :: u 35 :: u 36 :: u 37 :: u 38 :: u 39 :: u 40 :: u 41 :: u 42 :: u 43 :: u 44 :: u 45 :: u 46 :: u 47 :: u 48 :: u 49 :: u 50 :: u 51 :: u 52 :: u 53 :: u 54 :: u 55 :: u 56 :: u 57 :: u 58 :: u 59 :: u 60 :: u 61 :: u 62 :: u 63 :: u 64 :: u 65 :: u 66 :: u 67 :: u 68 :: u 69 :: u 70 :: u 71 :: u 72 :: u 73 :: u 74 :: u 75 :: u 76 :: u 77 :: u 78 :: u 79 :: u 80 :: u 81 :: u 82 :: u 83 :: u 84 :: u 85 :: u 86 :: u 87 :: u 88 :: u 89 :: u 90 :: u 91 :: u 92 :: u 93 :: u 94 :: u 95 :: u 96 :: u 97 :: u 98 :: u 99 :: u 100 :: u 101 :: u 102 :: u 103 :: u 104 :: u 105 :: u 106 :: u 107 :: []), defers := [] } W)
    (hQ : ∀ (u : Nat → Value), okF size cs → Q .normal { tmps := List.toArray (.slice A N c :: .int .i64 size :: .slice AK M ck :: u 3 :: u 4 :: u 5 :: u 6 :: u 7 :: u 8 :: u 9 :: u 10 :: u 11 :: u 12 :: .string (bs cs.flatten) :: u 14 :: u 15 :: u 16 :: u 17 :: u 18 :: u 19 :: u 20 :: u 21 :: u 22 :: u 23 :: u 24 :: u 25 :: u 26 :: u 27 :: u 28 :: u 29 :: u 30 :: u 31 :: u 32 :: u 33 :: u 34 :: u 35 :: u 36 :: u 37 :: u 38 :: u 39 :: u 40 :: u 41 :: u 42 :: u 43 :: u 44 :: u 45 :: u 46 :: u 47 :: u 48 :: u 49 :: u 50 :: u 51 :: u 52 :: u 53 :: u 54 :: u 55 :: u 56 :: u 57 :: u 58 :: u 59 :: u 60 :: u 61 :: u 62 :: u 63 :: u 64 :: u 65 :: u 66 :: u 67 :: u 68 :: u 69 :: u 70 :: u 71 :: u 72 :: u 73 :: u 74 :: u 75 :: u 76 :: u 77 :: u 78 :: u 79 :: u 80 :: u 81 :: u 82 :: u 83 :: u 84 :: u 85 :: u 86 :: u 87 :: u 88 :: u 89 :: u 90 :: u 91 :: u 92 :: u 93 :: u 94 :: u 95 :: u 96 :: u 97 :: u 98 :: u 99 :: u 100 :: u 101 :: u 102 :: u 103 :: u 104 :: u 105 :: u 106 :: u 107 :: []), defers := [] } W) :
    Code.wp Tryd.prog (sub [1,1,1,1,1,0,1] bodyRFill) Q { tmps := List.toArray (.slice A N c :: .int .i64 size :: .slice AK M ck :: u 3 :: u 4 :: u 5 :: u 6 :: u 7 :: .slice B N c9 :: u 9 :: u 10 :: u 11 :: u 12 :: .string ⟨#[]⟩ :: .int .i64 0 :: u 15 :: u 16 :: u 17 :: u 18 :: u 19 :: u 20 :: u 21 :: u 22 :: u 23 :: u 24 :: u 25 :: u 26 :: u 27 :: u 28 :: u 29 :: u 30 :: u 31 :: u 32 :: u 33 :: u 34 :: u 35 :: u 36 :: u 37 :: u 38 :: u 39 :: u 40 :: u 41 :: u 42 :: u 43 :: u 44 :: u 45 :: u 46 :: u 47 :: u 48 :: u 49 :: u 50 :: u 51 :: u 52 :: u 53 :: u 54 :: u 55 :: u 56 :: u 57 :: u 58 :: u 59 :: u 60 :: u 61 :: u 62 :: u 63 :: u 64 :: u 65 :: u 66 :: u 67 :: u 68 :: u 69 :: u 70 :: u 71 :: u 72 :: u 73 :: u 74 :: u 75 :: u 76 :: u 77 :: u 78 :: u 79 :: u 80 :: u 81 :: u 82 :: u 83 :: u 84 :: u 85 :: u 86 :: u 87 :: u 88 :: u 89 :: u 90 :: u 91 :: u 92 :: u 93 :: u 94 :: u 95 :: u 96 :: u 97 :: u 98 :: u 99 :: u 100 :: u 101 :: u 102 :: u 103 :: u 104 :: u 105 :: u 106 :: u 107 :: []), defers := [] } W := by
  conv => arg 2; whnf
  have HQ := Kp.mk hQ
  have HR := Kp.mk hR
  have HC := Kp.mk hcs
  have HO := Kp.mk ho
  have HN0 := Kp.mk hN
  clear hQ hR hcs ho hN
  refine wp_block ?_
  refine wp_loop_ghost_k (fun n a' w' => ∃ (i : Nat) (s : ByteArray) (u : Nat → Value), (n + i = N ∧ w' = W ∧ s = bs (cs.take i).flatten ∧ (∀ (j : Nat) (y : List UInt8), j < i → cs[j]? = some y → (y.length : Int) = lenF size j)) ∧ a' = { tmps := List.toArray (.slice A N c :: .int .i64 size :: .slice AK M ck :: u 3 :: u 4 :: u 5 :: u 6 :: u 7 :: .slice B N c9 :: u 9 :: u 10 :: u 11 :: u 12 :: .string s :: .int .i64 (i : Int) :: u 15 :: u 16 :: u 17 :: u 18 :: u 19 :: u 20 :: u 21 :: u 22 :: u 23 :: u 24 :: u 25 :: u 26 :: u 27 :: u 28 :: u 29 :: u 30 :: u 31 :: u 32 :: u 33 :: u 34 :: u 35 :: u 36 :: u 37 :: u 38 :: u 39 :: u 40 :: u 41 :: u 42 :: u 43 :: u 44 :: u 45 :: u 46 :: u 47 :: u 48 :: u 49 :: u 50 :: u 51 :: u 52 :: u 53 :: u 54 :: u 55 :: u 56 :: u 57 :: u 58 :: u 59 :: u 60 :: u 61 :: u 62 :: u 63 :: u 64 :: u 65 :: u 66 :: u 67 :: u 68 :: u 69 :: u 70 :: u 71 :: u 72 :: u 73 :: u 74 :: u 75 :: u 76 :: u 77 :: u 78 :: u 79 :: u 80 :: u 81 :: u 82 :: u 83 :: u 84 :: u 85 :: u 86 :: u 87 :: u 88 :: u 89 :: u 90 :: u 91 :: u 92 :: u 93 :: u 94 :: u 95 :: u 96 :: u 97 :: u 98 :: u 99 :: u 100 :: u 101 :: u 102 :: u 103 :: u 104 :: u 105 :: u 106 :: u 107 :: []), defers := [] }) N
    ⟨0, ⟨#[]⟩, u, ⟨rfl, rfl, rfl, fun j _ hj => absurd hj (Nat.not_lt_zero _)⟩, rfl⟩ ?_
  rintro n a' w' ⟨i, s, u, ⟨hn, rfl, rfl, hall⟩, rfl⟩ J K hJ hK
  have HJ := Kp.mk hJ
  have HK := Kp.mk hK
  have HN := Kp.mk hn
  have HA := Kp.mk hall
  clear hJ hK hn hall
  by_cases hlt : i < N
  · have hltz : (i : Int) < (N : Int) := by omega
    obtain ⟨y, hy⟩ : ∃ y, cs[i]? = some y := ⟨_, List.getElem?_eq_getElem (by rw [← HN0.out]; exact hlt)⟩
    obtain ⟨g, rfl⟩ : ∃ g, B = some ⟨g, 0, none⟩ := by
      rcases HO.out.2 with ⟨h1, h2⟩ | ⟨g, cap, cur, h1, _⟩
      · injection h1 with h1 h3 h4
        omega
      · injection h1 with h1
        exact ⟨g, h1⟩
    have l1 : w'.cell? ⟨g, i, none⟩ = some (.string (bs y)) := by
      rw [HO.out.cellAt i (by omega), vals_get, hy]; rfl
    have hyb := HC.out i y hy
    have hfl := flat_len cs i size HA.out
    have hft := flat_take cs i y hy
    have hi4 : (i : Int) ≤ 4096 := by omega
    have hi0 : (0 : Int) ≤ 16 * (i : Int) := by omega
    have hsz : (bs y).size = y.length := bs_size y
    have hle : lenF size i = if 16 < size - 16 * (i : Int) then 16 else size - 16 * (i : Int) := by unfold lenF; split <;> omega
    have HLE := Kp.mk hle
    have HFT := Kp.mk hft
    clear hle hft
    generalize (cs.take i).flatten = S at hfl HFT
    have hap : bs S ++ bs y = bs (S ++ y) := bs_append S y
    have hss : (bs S).size = S.length := bs_size S
    by_cases he : (y.length : Int) = lenF size i
    · have ALL : Kp (∀ (j : Nat) (z : List UInt8), j < i + 1 → cs[j]? = some z → (z.length : Int) = lenF size j) := ⟨fun j z hj hz => by
        by_cases e : j = i
        · subst e
          rw [hy] at hz
          cases hz
          exact he
        · exact HA.out j z (by omega) hz⟩
      rw [HLE.out] at he
      clear hy
      by_cases h16 : 16 < size - 16 * (i : Int)
      · rw [if_pos h16] at he
        have hne : ((y.length : Int) != 16) = false := by simp [he]
        clear he
        go_wp2_with fail
        refine HK.out _ _ (Handed.intro (n - 1) (by have := HN.out; omega) (HJ.out _ _ _ ⟨i + 1, bs (S ++ y), ex_u ⟨by have := HN.out; omega, rfl, by rw [HFT.out], ALL.out⟩ rfl⟩))
      · rw [if_neg h16] at he
        have hne : ((y.length : Int) != size - 16 * (i : Int)) = false := by simp [he]
        have h16z : size - 16 * (i : Int) ≤ 16 := by omega
        clear he
        go_wp2_with fail
        refine HK.out _ _ (Handed.intro (n - 1) (by have := HN.out; omega) (HJ.out _ _ _ ⟨i + 1, bs (S ++ y), ex_u ⟨by have := HN.out; omega, rfl, by rw [HFT.out], ALL.out⟩ rfl⟩))
    · have hno : Kp (¬ okF size cs) := ⟨fun h => he (h i y hy)⟩
      rw [HLE.out] at he
      clear hy
      by_cases h16 : 16 < size - 16 * (i : Int)
      · rw [if_pos h16] at he
        have hne : ((y.length : Int) != 16) = true := by simpa using he
        clear he
        go_wp2_with fail
        exact K_u (K := Q .ret) (fun u => HR.out u hno.out) rfl
      · rw [if_neg h16] at he
        have hne : ((y.length : Int) != size - 16 * (i : Int)) = true := by simpa using he
        have h16z : size - 16 * (i : Int) ≤ 16 := by omega
        clear he
        go_wp2_with fail
        exact K_u (K := Q .ret) (fun u => HR.out u hno.out) rfl
  · obtain rfl : i = N := by have := HN.out; omega
    have hltz : ¬ (i : Int) < (i : Int) := by omega
    have hal : Kp (okF size cs) := ⟨fun j z hz => HA.out j z (by have := (List.getElem?_eq_some_iff.1 hz).1; rw [HN0.out]; exact this) hz⟩
    have htk : cs.take i = cs := List.take_of_length_le (by rw [HN0.out]; exact Nat.le_refl _)
    rw [htk]
    clear htk
    go_wp2_with fail
    exact K_u (fun u => HQ.out u hal.out) rfl

set_option maxHeartbeats 8000000 in
set_option maxRecDepth 100000 in
theorem rfill_any (w : World) (known names : List (List UInt8)) (A AK : Option Addr) (c ck : Nat) (size : Int) (hs0 : -9223372036854775808 ≤ size) (hs1 : size ≤ 9223372036854775807)
    (hX : NamesC w A names) (hK : NamesC w AK known) (hNb : names.length ≤ 1099511627776) (hMb : known.length ≤ 4096) (hks : ∀ (j : Nat) (y : List UInt8), known[j]? = some y → y.length ≤ 1073741824) :
    Calls Tryd.prog 25 #[.slice A names.length c, .int .i64 size, .slice AK known.length ck] w fun e w' => e = .returned (.tuple #[.string (bs (fillL (lookK known) names size).1), .int .i64 (fillL (lookK known) names size).2]) ∧ Fr No w w' := by
  have HX := Kp.mk hX
  have HK := Kp.mk hK
  have HKS := Kp.mk hks
  clear hX hK hks
  obtain ⟨N, hN⟩ : ∃ N, N = names.length := ⟨_, rfl⟩
  obtain ⟨M, hM⟩ : ∃ M, M = known.length := ⟨_, rfl⟩
  rw [← hN] at hNb ⊢
  rw [← hM] at hMb ⊢
  by_cases c1 : size < 0
  · have hf : fillL (lookK known) names size = ([], 1) := by unfold fillL; rw [if_pos c1]
    rw [hf]
    clear hf hs0 hs1 hN hM
    go_enter Tryd.func25, Tryd.ntmps25
    go_wp2_with fail
    go_ret2
    exact ⟨rfl, Fr.refl _ _⟩
  have c1' : 0 ≤ size := by omega
  by_cases c2 : 4096 < size
  · have hf : fillL (lookK known) names size = ([], 1) := by unfold fillL; rw [if_neg c1, if_pos c2]
    rw [hf]
    clear hf hs0 hs1 c1 hN hM
    go_enter Tryd.func25, Tryd.ntmps25
    go_wp2_with fail
    go_ret2
    exact ⟨rfl, Fr.refl _ _⟩
  have c2' : size ≤ 4096 := by omega
  by_cases c3 : (N : Int) = (size + 15) / 16
  · have hN4 : N ≤ 4096 := by omega
    have hR1 : Kp (¬ allF (lookK known) size names → fillL (lookK known) names size = ([], 4)) := ⟨fun h => by unfold fillL; rw [if_neg c1, if_neg c2, if_neg (by rw [← hN, ← c3]; exact fun h => h rfl), if_pos h]⟩
    have hR2 : Kp (allF (lookK known) size names → ¬ okF size (gotF (lookK known) size names) → fillL (lookK known) names size = ([], 2)) := ⟨fun h1 h2 => by unfold fillL; rw [if_neg c1, if_neg c2, if_neg (by rw [← hN, ← c3]; exact fun h => h rfl), if_neg (fun h => h h1), if_pos h2]⟩
    have hR3 : Kp (allF (lookK known) size names → okF size (gotF (lookK known) size names) → fillL (lookK known) names size = ((gotF (lookK known) size names).flatten, 0)) := ⟨fun h1 h2 => by unfold fillL; rw [if_neg c1, if_neg c2, if_neg (by rw [← hN, ← c3]; exact fun h => h rfl), if_neg (fun h => h h1), if_neg (fun h => h h2)]⟩
    have HN := Kp.mk hN
    have HM := Kp.mk hM
    have HC3 := Kp.mk c3
    have hcs : Kp (∀ (i : Nat) (y : List UInt8), (gotF (lookK known) size names)[i]? = some y → y.length ≤ 1073741824) := ⟨fun i y hy => by
      simp only [gotF, List.getElem?_mapIdx, Option.map_eq_some_iff] at hy
      obtain ⟨x, hx, hy⟩ := hy
      subst hy
      unfold oneF
      split
      · simp only [Option.getD_some, zerosL_len]
        have := lenF_le size i
        omega
      · cases hg : lookK known x with
        | none => simp
        | some z =>
          obtain ⟨j, hj⟩ := List.getElem?_of_mem (List.mem_of_find?_eq_some hg)
          exact HKS.out j z hj⟩
    have c4 : ((N : Int) != (size + 15) / 16) = false := by simp [c3]
    clear hs0 hs1 c1 c2 hN hM c3
    go_enter Tryd.func25, Tryd.ntmps25
    go_upto_block 0 with fail
    refine wp_u (fun u => rfill_loop1 known M HM.out hMb HKS.out AK ck names N HN.out hN4 A c size c1' c2' HC3.out w HK.out HX.out u _ ?_ ?_) rfl
    · intro u ws fs hna
      have e := Kp.mk (hR1.out hna)
      go_wp2_with fail
      go_ret2
      exact ⟨by rw [e.out]; rfl, fs⟩
    · intro u B c9 ws fs hal ho
      have HAL := Kp.mk hal
      have HO := Kp.mk ho
      clear hal ho
      go_upto_block 4 with fail
      refine wp_u (fun u => rfill_loop3 (gotF (lookK known) size names) N (by rw [gotF_len]; exact HN.out) hN4 A AK B M c ck c9 w.heap.size size c1' c2' ws u HO.out hcs.out _ ?_ ?_) rfl
      · intro u hno
        have e := Kp.mk (hR2.out HAL.out hno)
        go_wp2_with fail
        go_ret2
        exact ⟨by rw [e.out]; rfl, fs⟩
      · intro u hok
        have e := Kp.mk (hR3.out HAL.out hok)
        clear hok
        generalize gotF (lookK known) size names = cs at HO e
        go_wp2_with fail
        go_ret2
        exact ⟨by rw [e.out]; rfl, fs⟩
  · have hf : fillL (lookK known) names size = ([], 1) := by unfold fillL; rw [if_neg c1, if_neg c2, if_pos (by rw [← hN]; exact c3)]
    rw [hf]
    have c4 : ((N : Int) != (size + 15) / 16) = true := by simpa using c3
    clear hf hs0 hs1 c1 c2 hN hM c3
    go_enter Tryd.func25, Tryd.ntmps25
    go_wp2_with fail
    go_ret2
    exact ⟨rfl, Fr.refl _ _⟩
end Go.Proofs.YtaohfmmapammcaaDoor.Ch
