/- NodeOrder's first loop. No conditions beside those written out. -/
import Derived.Test.YtenlokbfjajbbaaNodeReg
set_option linter.unusedSimpArgs false
set_option linter.unusedVariables false
namespace Go.Proofs.Ytenlokbfjajbbaa.Nd
open Go Go.RowKit Go.Proofs.YtenlokbfjajbbaaW.PrintWords Go.Proofs.YtenlokbfjajbbaaW.PrintLast Go.Proofs.Ytenlokbfjajbbaa.Ev Go.Proofs.Ytenlokbfjajbbaa.Reg Go.Proofs.Ytenlokbfjajbbaa.Sb

/-- Names that came in, in memory. -/
def NamesIn (W : World) (A : Option Addr) (xs : List ByteArray) : Prop := 0 < xs.length → ∃ b o, A = some ⟨b, o, none⟩ ∧ ∀ j, j < xs.length → W.cell? ⟨b, o + j, none⟩ = some (.string (xs.getD j ByteArray.empty))
theorem put_small {xs : List ByteArray} {a : Nd} {l : List Ent} (h : PutAll a l) : a.ents.length ≤ l.length := by
  obtain ⟨es, rfl, _, _, he⟩ := h.out
  exact he

set_option maxHeartbeats 8000000 in
set_option maxRecDepth 100000 in
theorem order_loop1 (A : Option Addr) (c g5 g6 : Nat) (xs : List ByteArray) (v1 : Value) (W : World) (u : Nat → Value) (h30 : xs.length ≤ 30) (hX : ∀ W', Fr (One g5) W W' → NamesIn W' A xs) (B5 : Blk W g5 56 (ndL 2 0 ⟨#[]⟩ ⟨#[]⟩ (.slice none 0 0))) (B6 : Blk W g6 56 (ndL 2 0 ⟨#[]⟩ ⟨#[]⟩ (.slice none 0 0))) (h56 : g5 ≠ g6)
    (Q : Exit → Act → World → Prop) (hR : ∀ (u : Nat → Value) ws, Fr (One g5) W ws → Q .ret { tmps := List.toArray (.slice A xs.length c :: v1 :: u 2 :: u 3 :: .bool true :: .pointer (some ⟨g5, 0, none⟩) :: .pointer (some ⟨g6, 0, none⟩) :: u 7 :: u 8 :: u 9 :: u 10 :: u 11 :: u 12 :: u 13 :: u 14 :: u 15 :: u 16 :: u 17 :: u 18 :: u 19 :: u 20 :: u 21 :: u 22 :: u 23 :: u 24 :: u 25 :: u 26 :: u 27 :: u 28 :: u 29 :: u 30 :: u 31 :: u 32 :: u 33 :: u 34 :: u 35 :: u 36 :: u 37 :: u 38 :: u 39 :: u 40 :: u 41 :: u 42 :: u 43 :: u 44 :: u 45 :: u 46 :: u 47 :: u 48 :: u 49 :: u 50 :: u 51 :: u 52 :: u 53 :: u 54 :: u 55 :: u 56 :: u 57 :: u 58 :: u 59 :: u 60 :: u 61 :: u 62 :: u 63 :: u 64 :: u 65 :: u 66 :: u 67 :: u 68 :: u 69 :: u 70 :: u 71 :: u 72 :: u 73 :: u 74 :: u 75 :: u 76 :: u 77 :: u 78 :: u 79 :: u 80 :: u 81 :: u 82 :: u 83 :: u 84 :: u 85 :: u 86 :: u 87 :: u 88 :: u 89 :: u 90 :: u 91 :: u 92 :: u 93 :: u 94 :: u 95 :: u 96 :: u 97 :: u 98 :: u 99 :: u 100 :: u 101 :: u 102 :: u 103 :: u 104 :: u 105 :: u 106 :: u 107 :: u 108 :: u 109 :: u 110 :: u 111 :: u 112 :: u 113 :: u 114 :: u 115 :: u 116 :: u 117 :: u 118 :: u 119 :: u 120 :: u 121 :: u 122 :: u 123 :: u 124 :: u 125 :: u 126 :: u 127 :: u 128 :: u 129 :: u 130 :: u 131 :: u 132 :: u 133 :: u 134 :: u 135 :: u 136 :: []), defers := [] } ws)
    (hQ : ∀ (u : Nat → Value) a va ws, Fr (One g5) W ws → Blk ws g5 56 (ndL a.kind a.mode a.data a.target va) → EntS ws va a.ents → Blk ws g6 56 (ndL 2 0 ⟨#[]⟩ ⟨#[]⟩ (.slice none 0 0)) → PutAll a (fwdL xs xs.length) → Apart xs xs.length → (∀ j, j < xs.length → (xs.getD j ByteArray.empty).size ≤ 100) → Q .normal { tmps := List.toArray (.slice A xs.length c :: v1 :: u 2 :: u 3 :: u 4 :: .pointer (some ⟨g5, 0, none⟩) :: .pointer (some ⟨g6, 0, none⟩) :: u 7 :: u 8 :: u 9 :: u 10 :: u 11 :: u 12 :: u 13 :: u 14 :: u 15 :: u 16 :: u 17 :: u 18 :: u 19 :: u 20 :: u 21 :: u 22 :: u 23 :: u 24 :: u 25 :: u 26 :: u 27 :: u 28 :: u 29 :: u 30 :: u 31 :: u 32 :: u 33 :: u 34 :: u 35 :: u 36 :: u 37 :: u 38 :: u 39 :: u 40 :: u 41 :: u 42 :: u 43 :: u 44 :: u 45 :: u 46 :: u 47 :: u 48 :: u 49 :: u 50 :: u 51 :: u 52 :: u 53 :: u 54 :: u 55 :: u 56 :: u 57 :: u 58 :: u 59 :: u 60 :: u 61 :: u 62 :: u 63 :: u 64 :: u 65 :: u 66 :: u 67 :: u 68 :: u 69 :: u 70 :: u 71 :: u 72 :: u 73 :: u 74 :: u 75 :: u 76 :: u 77 :: u 78 :: u 79 :: u 80 :: u 81 :: u 82 :: u 83 :: u 84 :: u 85 :: u 86 :: u 87 :: u 88 :: u 89 :: u 90 :: u 91 :: u 92 :: u 93 :: u 94 :: u 95 :: u 96 :: u 97 :: u 98 :: u 99 :: u 100 :: u 101 :: u 102 :: u 103 :: u 104 :: u 105 :: u 106 :: u 107 :: u 108 :: u 109 :: u 110 :: u 111 :: u 112 :: u 113 :: u 114 :: u 115 :: u 116 :: u 117 :: u 118 :: u 119 :: u 120 :: u 121 :: u 122 :: u 123 :: u 124 :: u 125 :: u 126 :: u 127 :: u 128 :: u 129 :: u 130 :: u 131 :: u 132 :: u 133 :: u 134 :: u 135 :: u 136 :: []), defers := [] } ws) :
    Code.wp Try.prog (sub [1,1,1,1,0,1] bodyOrder) Q { tmps := List.toArray (.slice A xs.length c :: v1 :: u 2 :: u 3 :: u 4 :: .pointer (some ⟨g5, 0, none⟩) :: .pointer (some ⟨g6, 0, none⟩) :: .int .i64 0 :: u 8 :: u 9 :: u 10 :: u 11 :: u 12 :: u 13 :: u 14 :: u 15 :: u 16 :: u 17 :: u 18 :: u 19 :: u 20 :: u 21 :: u 22 :: u 23 :: u 24 :: u 25 :: u 26 :: u 27 :: u 28 :: u 29 :: u 30 :: u 31 :: u 32 :: u 33 :: u 34 :: u 35 :: u 36 :: u 37 :: u 38 :: u 39 :: u 40 :: u 41 :: u 42 :: u 43 :: u 44 :: u 45 :: u 46 :: u 47 :: u 48 :: u 49 :: u 50 :: u 51 :: u 52 :: u 53 :: u 54 :: u 55 :: u 56 :: u 57 :: u 58 :: u 59 :: u 60 :: u 61 :: u 62 :: u 63 :: u 64 :: u 65 :: u 66 :: u 67 :: u 68 :: u 69 :: u 70 :: u 71 :: u 72 :: u 73 :: u 74 :: u 75 :: u 76 :: u 77 :: u 78 :: u 79 :: u 80 :: u 81 :: u 82 :: u 83 :: u 84 :: u 85 :: u 86 :: u 87 :: u 88 :: u 89 :: u 90 :: u 91 :: u 92 :: u 93 :: u 94 :: u 95 :: u 96 :: u 97 :: u 98 :: u 99 :: u 100 :: u 101 :: u 102 :: u 103 :: u 104 :: u 105 :: u 106 :: u 107 :: u 108 :: u 109 :: u 110 :: u 111 :: u 112 :: u 113 :: u 114 :: u 115 :: u 116 :: u 117 :: u 118 :: u 119 :: u 120 :: u 121 :: u 122 :: u 123 :: u 124 :: u 125 :: u 126 :: u 127 :: u 128 :: u 129 :: u 130 :: u 131 :: u 132 :: u 133 :: u 134 :: u 135 :: u 136 :: []), defers := [] } W := by
  conv => arg 2; whnf
  have HQ := Kp.mk hQ
  have HR := Kp.mk hR
  have HX := Kp.mk hX
  clear hQ hR hX
  refine wp_block ?_
  refine wp_loop_ghost_k (fun n a' w' => ∃ (i : Nat) (u : Nat → Value), (∃ (a : Nd) (va : Value), n + i = xs.length ∧ Fr (One g5) W w' ∧ Blk w' g5 56 (ndL a.kind a.mode a.data a.target va) ∧ EntS w' va a.ents ∧ Blk w' g6 56 (ndL 2 0 ⟨#[]⟩ ⟨#[]⟩ (.slice none 0 0)) ∧ PutAll a (fwdL xs i) ∧ Apart xs i ∧ (∀ j, j < i → (xs.getD j ByteArray.empty).size ≤ 100)) ∧ a' = { tmps := List.toArray (.slice A xs.length c :: v1 :: u 2 :: u 3 :: u 4 :: .pointer (some ⟨g5, 0, none⟩) :: .pointer (some ⟨g6, 0, none⟩) :: .int .i64 (i : Int) :: u 8 :: u 9 :: u 10 :: u 11 :: u 12 :: u 13 :: u 14 :: u 15 :: u 16 :: u 17 :: u 18 :: u 19 :: u 20 :: u 21 :: u 22 :: u 23 :: u 24 :: u 25 :: u 26 :: u 27 :: u 28 :: u 29 :: u 30 :: u 31 :: u 32 :: u 33 :: u 34 :: u 35 :: u 36 :: u 37 :: u 38 :: u 39 :: u 40 :: u 41 :: u 42 :: u 43 :: u 44 :: u 45 :: u 46 :: u 47 :: u 48 :: u 49 :: u 50 :: u 51 :: u 52 :: u 53 :: u 54 :: u 55 :: u 56 :: u 57 :: u 58 :: u 59 :: u 60 :: u 61 :: u 62 :: u 63 :: u 64 :: u 65 :: u 66 :: u 67 :: u 68 :: u 69 :: u 70 :: u 71 :: u 72 :: u 73 :: u 74 :: u 75 :: u 76 :: u 77 :: u 78 :: u 79 :: u 80 :: u 81 :: u 82 :: u 83 :: u 84 :: u 85 :: u 86 :: u 87 :: u 88 :: u 89 :: u 90 :: u 91 :: u 92 :: u 93 :: u 94 :: u 95 :: u 96 :: u 97 :: u 98 :: u 99 :: u 100 :: u 101 :: u 102 :: u 103 :: u 104 :: u 105 :: u 106 :: u 107 :: u 108 :: u 109 :: u 110 :: u 111 :: u 112 :: u 113 :: u 114 :: u 115 :: u 116 :: u 117 :: u 118 :: u 119 :: u 120 :: u 121 :: u 122 :: u 123 :: u 124 :: u 125 :: u 126 :: u 127 :: u 128 :: u 129 :: u 130 :: u 131 :: u 132 :: u 133 :: u 134 :: u 135 :: u 136 :: []), defers := [] }) xs.length
    ⟨0, u, ⟨dirN [], .slice none 0 0, rfl, Fr.refl _ _, B5, EntS.nil _, B6, PutAll.nil, fun j k _ hj => absurd hj (Nat.not_lt_zero _), fun j hj => absurd hj (Nat.not_lt_zero _)⟩, rfl⟩ ?_
  clear B5 B6
  rintro n a' w' ⟨i, u, ⟨a, va, hn, f, b5, ea, b6, pa, ap, sz⟩, rfl⟩ J K hJ hK
  have HJ := Kp.mk hJ
  have HK := Kp.mk hK
  have F := Kp.mk f
  have HN := Kp.mk hn
  have PA := Kp.mk pa
  have AP := Kp.mk ap
  have SZ := Kp.mk sz
  clear hJ hK f hn pa ap sz
  by_cases hlt : i < xs.length
  · have hltz : (i : Int) < (xs.length : Int) := by omega
    obtain ⟨b, o, rfl, hcc⟩ := HX.out _ F.out (by omega)
    have HC := Kp.mk hcc
    clear hcc
    have l1 := HC.out i hlt
    obtain ⟨y, hy⟩ : ∃ y, xs.getD i ByteArray.empty = y := ⟨_, rfl⟩
    have HY := Kp.mk hy
    rw [hy] at l1
    clear hy
    by_cases h100 : y.size ≤ 100
    · have h100z : ¬ (100 : Int) < (y.size : Int) := by omega
      go_wp2_with fail
      go_loopg [8] i (fun gg s8 wr' => ∃ k : Nat, k ≤ i ∧ i - k ≤ gg ∧ s8 = .int .i64 k ∧ Kp (Fr No w' wr') ∧ Kp (∀ j, j < k → xs.getD j ByteArray.empty ≠ y))
      case atStart => exact ⟨0, Nat.zero_le _, by omega, rfl, ⟨Fr.refl _ _⟩, ⟨fun j hj => absurd hj (Nat.not_lt_zero _)⟩⟩
      case round =>
        obtain ⟨k, hk, hgk, rfl, FK, NE⟩ := hrel
        by_cases hkl : k < i
        · have hklz : (k : Int) < (i : Int) := by omega
          have m1 := Fr.cell l1 FK.out (fun h => h)
          have m2 := Fr.cell (HC.out k (by omega)) FK.out (fun h => h)
          obtain ⟨z, hz⟩ : ∃ z, xs.getD k ByteArray.empty = z := ⟨_, rfl⟩
          rw [hz] at m2
          have HZ := Kp.mk hz
          clear hz
          have k1 : (k : Int) < (xs.length : Int) := by omega
          have k2 : (0 : Int) ≤ (k : Int) := by omega
          have k3 : (0 : Int) ≤ (i : Int) := by omega
          by_cases he : z.toList = y.toList
          · go_wp2_with fail
            go_quiet (fail)
            go_wp2_with fail
            exact K_u (K := Q .ret) (fun u => HR.out u _ (F.out.no (FK.out.drewN _))) rfl
          · have he2 : (z.toList == y.toList) = false := by simpa using he
            go_wp2_with fail
            go_quiet (fail)
            go_wp2_with fail
            go_roundg (i - (k + 1))
            case measure => omega
            case rel =>
              refine ⟨k + 1, by omega, by omega, by go_num, ⟨FK.out.drewN _⟩, ⟨fun j hj => ?_⟩⟩
              by_cases e : j = k
              · rw [e, HZ.out]; exact fun h => he (by rw [h])
              · exact NE.out j (by omega)
        · have hklz : ¬ (k : Int) < (i : Int) := by omega
          obtain rfl : k = i := by omega
          have b5 := b5.no FK.out
          have b6 := b6.no FK.out
          have ea := ea.no FK.out
          have l1 := Fr.cell l1 FK.out (fun h => h)
          have F := F.out.no FK.out
          have HNX := Kp.mk (fun j hj => (by rw [HY.out]; exact NE.out j hj : xs.getD j ByteArray.empty ≠ xs.getD k ByteArray.empty))
          have AP2 : Kp (Apart xs (k + 1)) := ⟨AP.out.next HNX.out⟩
          have SZ2 : Kp (∀ j, j < k + 1 → (xs.getD j ByteArray.empty).size ≤ 100) := ⟨fun j hj => by
            by_cases e : j = k
            · rw [e, HY.out]; exact h100
            · exact SZ.out j (by omega)⟩
          have hal : a.ents.length ≤ 64 := by
            have h := put_small (xs := xs) PA.out
            rw [len_fwd] at h
            omega
          obtain ⟨R, hR⟩ : ∃ R, withN a y ((k : Int) + 1) = R := ⟨_, rfl⟩
          have CW : Kp (∀ W, EntS W va a.ents → Calls Try.prog 43 #[ndV a va, .string y, .int .i64 ((k : Int) + 1)] W fun e w' => Gives W R.1 R.2 e w') := ⟨fun W h => by
            have h := with_any a va y ((k : Int) + 1) W h (by omega) (by omega)
            rw [hR] at h
            exact h⟩
          have PN : Kp (PutAll (if R.2 = 0 then R.1 else a) (fwdL xs (k + 1))) := ⟨by
            have h := PA.out.fwd (by omega) HNX.out
            rw [stepN, ordE, HY.out, hR] at h
            exact h⟩
          have k3 : (k : Int) ≤ 30 := by omega
          clear hR hal AP SZ PA NE HNX HC HY FK
          go_wp2_with fail
          refine wp_u (fun u => order_reg16 b o c k xs.length g5 g6 a va v1 y R wr u hlt h30 b5 ea l1 CW _ ?_) rfl
          intro u g9 v9 ws hg9 fr bs E9
          have b5 := b5.no fr
          have b6 := b6.no fr
          have ea := ea.no fr
          have F := F.no fr
          by_cases hr0 : R.2 = 0
          · have PN := PN.out
            rw [if_pos hr0] at PN
            have PN := Kp.mk PN
            rw [hr0]
            have HV := Kp.mk ea.noInt
            go_wp2_with (first
              | ((with_reducible refine gate_dst (N := 65) rfl ?_); go_must (refine ev_load_row rfl 56 _ rfl g9 rfl 56 _ bs _ Try.underlying56 rfl sizeNd ?_))
              | ((with_reducible refine gate_store (t := 56) (p := 5) rfl ?_); go_must (refine ev_store_row rfl 56 _ _ rfl g5 (ndL R.1.kind R.1.mode R.1.data R.1.target v9).toArray rfl rfl 56 _ b5 sizeNd rfl (ndL_one _ _ _ _ E9.one) ?_); intro wt ft bt; have b6 := b6.one ft h56.symm; have E9 := EntS.oneN E9 HV.out b5 ft; have F := F.one ft (.inl rfl); clear b5 bs ea))
            refine HK.out _ _ (Handed.intro (n - 1) (by have := HN.out; omega) (HJ.out _ _ _ ⟨k + 1, ex_u ⟨R.1, v9, by have := HN.out; omega, F, bt, E9, b6, PN.out, AP2.out, SZ2.out⟩ rfl⟩))
          · have PN := PN.out
            rw [if_neg hr0] at PN
            have PN := Kp.mk PN
            go_wp2_with fail
            refine HK.out _ _ (Handed.intro (n - 1) (by have := HN.out; omega) (HJ.out _ _ _ ⟨k + 1, ex_u ⟨a, va, by have := HN.out; omega, F, b5, ea, b6, PN.out, AP2.out, SZ2.out⟩ rfl⟩))
    · have h100z : (100 : Int) < (y.size : Int) := by omega
      go_wp2_with fail
      exact K_u (K := Q .ret) (fun u => HR.out u _ F.out) rfl
  · obtain rfl : i = xs.length := by have := HN.out; omega
    have hltz : ¬ (xs.length : Int) < (xs.length : Int) := by omega
    go_wp2_with fail
    exact K_u (K := Q .normal) (fun u => HQ.out u a va _ F.out b5 ea b6 PA.out AP.out SZ.out) rfl
end Go.Proofs.Ytenlokbfjajbbaa.Nd
