/- NodeOrder's second loop. No conditions beside those written out. -/
import Derived.Test.YtenlokbfjajbbaaNodeLoop1
set_option linter.unusedSimpArgs false
set_option linter.unusedVariables false
namespace Go.Proofs.Ytenlokbfjajbbaa.Nd
open Go Go.RowKit Go.Proofs.YtenlokbfjajbbaaW.PrintWords Go.Proofs.YtenlokbfjajbbaaW.PrintLast Go.Proofs.Ytenlokbfjajbbaa.Ev Go.Proofs.Ytenlokbfjajbbaa.Reg Go.Proofs.Ytenlokbfjajbbaa.Sb

set_option maxHeartbeats 8000000 in
set_option maxRecDepth 100000 in
theorem order_loop2 (A : Option Addr) (c g5 g6 : Nat) (xs : List ByteArray) (v1 : Value) (W : World) (u : Nat → Value) (h30 : xs.length ≤ 30) (hX : ∀ W', Fr (One g6) W W' → NamesIn W' A xs) (a5 : Nd) (va5 : Value) (B5 : Blk W g5 56 (ndL a5.kind a5.mode a5.data a5.target va5)) (ea5 : EntS W va5 a5.ents) (B6 : Blk W g6 56 (ndL 2 0 ⟨#[]⟩ ⟨#[]⟩ (.slice none 0 0))) (h56 : g5 ≠ g6)
    (ap : Apart xs xs.length) (sz : ∀ j, j < xs.length → (xs.getD j ByteArray.empty).size ≤ 100) (Q : Exit → Act → World → Prop)
    (hQ : ∀ (u : Nat → Value) b vb ws, Fr (One g6) W ws → Blk ws g5 56 (ndL a5.kind a5.mode a5.data a5.target va5) → EntS ws va5 a5.ents → Blk ws g6 56 (ndL b.kind b.mode b.data b.target vb) → EntS ws vb b.ents → PutAll b (bwdL xs xs.length xs.length) → Q .normal { tmps := List.toArray (.slice A xs.length c :: v1 :: u 2 :: u 3 :: u 4 :: .pointer (some ⟨g5, 0, none⟩) :: .pointer (some ⟨g6, 0, none⟩) :: u 7 :: u 8 :: u 9 :: u 10 :: u 11 :: u 12 :: u 13 :: u 14 :: u 15 :: u 16 :: u 17 :: u 18 :: u 19 :: u 20 :: u 21 :: u 22 :: u 23 :: u 24 :: u 25 :: u 26 :: u 27 :: u 28 :: u 29 :: u 30 :: u 31 :: u 32 :: u 33 :: u 34 :: u 35 :: u 36 :: u 37 :: u 38 :: u 39 :: u 40 :: u 41 :: u 42 :: u 43 :: u 44 :: u 45 :: u 46 :: u 47 :: u 48 :: u 49 :: u 50 :: u 51 :: u 52 :: u 53 :: u 54 :: u 55 :: u 56 :: u 57 :: u 58 :: u 59 :: u 60 :: u 61 :: u 62 :: u 63 :: u 64 :: u 65 :: u 66 :: u 67 :: u 68 :: u 69 :: u 70 :: u 71 :: u 72 :: u 73 :: u 74 :: u 75 :: u 76 :: u 77 :: u 78 :: u 79 :: u 80 :: u 81 :: u 82 :: u 83 :: u 84 :: u 85 :: u 86 :: u 87 :: u 88 :: u 89 :: u 90 :: u 91 :: u 92 :: u 93 :: u 94 :: u 95 :: u 96 :: u 97 :: u 98 :: u 99 :: u 100 :: u 101 :: u 102 :: u 103 :: u 104 :: u 105 :: u 106 :: u 107 :: u 108 :: u 109 :: u 110 :: u 111 :: u 112 :: u 113 :: u 114 :: u 115 :: u 116 :: u 117 :: u 118 :: u 119 :: u 120 :: u 121 :: u 122 :: u 123 :: u 124 :: u 125 :: u 126 :: u 127 :: u 128 :: u 129 :: u 130 :: u 131 :: u 132 :: u 133 :: u 134 :: u 135 :: u 136 :: []), defers := [] } ws) :
    Code.wp Try.prog (sub [1,1,1,1,1,0,1] bodyOrder) Q { tmps := List.toArray (.slice A xs.length c :: v1 :: u 2 :: u 3 :: u 4 :: .pointer (some ⟨g5, 0, none⟩) :: .pointer (some ⟨g6, 0, none⟩) :: u 7 :: u 8 :: u 9 :: u 10 :: .int .i64 ((xs.length : Int) - 1) :: u 12 :: u 13 :: u 14 :: u 15 :: u 16 :: u 17 :: u 18 :: u 19 :: u 20 :: u 21 :: u 22 :: u 23 :: u 24 :: u 25 :: u 26 :: u 27 :: u 28 :: u 29 :: u 30 :: u 31 :: u 32 :: u 33 :: u 34 :: u 35 :: u 36 :: u 37 :: u 38 :: u 39 :: u 40 :: u 41 :: u 42 :: u 43 :: u 44 :: u 45 :: u 46 :: u 47 :: u 48 :: u 49 :: u 50 :: u 51 :: u 52 :: u 53 :: u 54 :: u 55 :: u 56 :: u 57 :: u 58 :: u 59 :: u 60 :: u 61 :: u 62 :: u 63 :: u 64 :: u 65 :: u 66 :: u 67 :: u 68 :: u 69 :: u 70 :: u 71 :: u 72 :: u 73 :: u 74 :: u 75 :: u 76 :: u 77 :: u 78 :: u 79 :: u 80 :: u 81 :: u 82 :: u 83 :: u 84 :: u 85 :: u 86 :: u 87 :: u 88 :: u 89 :: u 90 :: u 91 :: u 92 :: u 93 :: u 94 :: u 95 :: u 96 :: u 97 :: u 98 :: u 99 :: u 100 :: u 101 :: u 102 :: u 103 :: u 104 :: u 105 :: u 106 :: u 107 :: u 108 :: u 109 :: u 110 :: u 111 :: u 112 :: u 113 :: u 114 :: u 115 :: u 116 :: u 117 :: u 118 :: u 119 :: u 120 :: u 121 :: u 122 :: u 123 :: u 124 :: u 125 :: u 126 :: u 127 :: u 128 :: u 129 :: u 130 :: u 131 :: u 132 :: u 133 :: u 134 :: u 135 :: u 136 :: []), defers := [] } W := by
  conv => arg 2; whnf
  have HQ := Kp.mk hQ
  have HX := Kp.mk hX
  have AP := Kp.mk ap
  have SZ := Kp.mk sz
  clear hQ hX ap sz
  refine wp_block ?_
  refine wp_loop_ghost_k (fun n a' w' => ∃ (i : Nat) (u : Nat → Value), (∃ (a : Nd) (va : Value), n + i = xs.length ∧ Fr (One g6) W w' ∧ Blk w' g6 56 (ndL a.kind a.mode a.data a.target va) ∧ EntS w' va a.ents ∧ Blk w' g5 56 (ndL a5.kind a5.mode a5.data a5.target va5) ∧ EntS w' va5 a5.ents ∧ PutAll a (bwdL xs xs.length i)) ∧ a' = { tmps := List.toArray (.slice A xs.length c :: v1 :: u 2 :: u 3 :: u 4 :: .pointer (some ⟨g5, 0, none⟩) :: .pointer (some ⟨g6, 0, none⟩) :: u 7 :: u 8 :: u 9 :: u 10 :: .int .i64 ((xs.length : Int) - 1 - (i : Int)) :: u 12 :: u 13 :: u 14 :: u 15 :: u 16 :: u 17 :: u 18 :: u 19 :: u 20 :: u 21 :: u 22 :: u 23 :: u 24 :: u 25 :: u 26 :: u 27 :: u 28 :: u 29 :: u 30 :: u 31 :: u 32 :: u 33 :: u 34 :: u 35 :: u 36 :: u 37 :: u 38 :: u 39 :: u 40 :: u 41 :: u 42 :: u 43 :: u 44 :: u 45 :: u 46 :: u 47 :: u 48 :: u 49 :: u 50 :: u 51 :: u 52 :: u 53 :: u 54 :: u 55 :: u 56 :: u 57 :: u 58 :: u 59 :: u 60 :: u 61 :: u 62 :: u 63 :: u 64 :: u 65 :: u 66 :: u 67 :: u 68 :: u 69 :: u 70 :: u 71 :: u 72 :: u 73 :: u 74 :: u 75 :: u 76 :: u 77 :: u 78 :: u 79 :: u 80 :: u 81 :: u 82 :: u 83 :: u 84 :: u 85 :: u 86 :: u 87 :: u 88 :: u 89 :: u 90 :: u 91 :: u 92 :: u 93 :: u 94 :: u 95 :: u 96 :: u 97 :: u 98 :: u 99 :: u 100 :: u 101 :: u 102 :: u 103 :: u 104 :: u 105 :: u 106 :: u 107 :: u 108 :: u 109 :: u 110 :: u 111 :: u 112 :: u 113 :: u 114 :: u 115 :: u 116 :: u 117 :: u 118 :: u 119 :: u 120 :: u 121 :: u 122 :: u 123 :: u 124 :: u 125 :: u 126 :: u 127 :: u 128 :: u 129 :: u 130 :: u 131 :: u 132 :: u 133 :: u 134 :: u 135 :: u 136 :: []), defers := [] }) xs.length
    ⟨0, u, ⟨dirN [], .slice none 0 0, rfl, Fr.refl _ _, B6, EntS.nil _, B5, ea5, PutAll.nil⟩, by simp⟩ ?_
  clear B5 B6 ea5
  rintro n a' w' ⟨i, u, ⟨a, va, hn, f, b6, ea, b5, ea5, pa⟩, rfl⟩ J K hJ hK
  have HJ := Kp.mk hJ
  have HK := Kp.mk hK
  have F := Kp.mk f
  have HN := Kp.mk hn
  have PA := Kp.mk pa
  clear hJ hK f hn pa
  by_cases hlt : i < xs.length
  · obtain ⟨k, hk⟩ : ∃ k, k = xs.length - 1 - i := ⟨_, rfl⟩
    have hkz : (xs.length : Int) - 1 - (i : Int) = (k : Int) := by omega
    have hkl : k < xs.length := by omega
    have HKI := Kp.mk hk
    rw [hkz]
    have hk0 : (0 : Int) ≤ (k : Int) := by omega
    obtain ⟨b, o, rfl, hcc⟩ := HX.out _ F.out (by omega)
    have l1 := hcc k hkl
    obtain ⟨y, hy⟩ : ∃ y, xs.getD k ByteArray.empty = y := ⟨_, rfl⟩
    have HY := Kp.mk hy
    rw [hy] at l1
    have h100 : y.size ≤ 100 := by rw [← hy]; exact SZ.out k hkl
    clear hy hcc
    have hal : a.ents.length ≤ 64 := by
      have h := put_small (xs := xs) PA.out
      rw [len_bwd] at h
      omega
    obtain ⟨R, hR⟩ : ∃ R, withN a y ((k : Int) + 1) = R := ⟨_, rfl⟩
    have CW : Kp (∀ W, EntS W va a.ents → Calls Try.prog 43 #[ndV a va, .string y, .int .i64 ((k : Int) + 1)] W fun e w' => Gives W R.1 R.2 e w') := ⟨fun W h => by
      have h := with_any a va y ((k : Int) + 1) W h (by omega) (by omega)
      rw [hR] at h
      exact h⟩
    have PN : Kp (PutAll (if R.2 = 0 then R.1 else a) (bwdL xs xs.length (i + 1))) := ⟨by
      have h := PA.out.bwd hlt (by omega) AP.out
      rw [stepN, ← HKI.out, ordE, HY.out, hR] at h
      exact h⟩
    have k3 : (k : Int) ≤ 30 := by omega
    clear hR hal PA hk hkz
    go_wp2_with fail
    refine wp_u (fun u => order_reg22 b o c k xs.length g6 g5 a va v1 y R w' u hkl h30 b6 ea l1 CW _ ?_) rfl
    intro u g9 v9 ws hg9 fr bs E9
    have b5 := b5.no fr
    have b6 := b6.no fr
    have ea := ea.no fr
    have ea5 := ea5.no fr
    have F := F.out.no fr
    have HS : Kp ((k : Int) - 1 = (xs.length : Int) - 1 - ((i + 1 : Nat) : Int)) := ⟨by have := HKI.out; omega⟩
    by_cases hr0 : R.2 = 0
    · have PN := PN.out
      rw [if_pos hr0] at PN
      have PN := Kp.mk PN
      rw [hr0]
      have HV := Kp.mk ea.noInt
      go_wp2_with (first
        | ((with_reducible refine gate_dst (N := 86) rfl ?_); go_must (refine ev_load_row rfl 56 _ rfl g9 rfl 56 _ bs _ Try.underlying56 rfl sizeNd ?_))
        | ((with_reducible refine gate_store (t := 56) (p := 6) rfl ?_); go_must (refine ev_store_row rfl 56 _ _ rfl g6 (ndL R.1.kind R.1.mode R.1.data R.1.target v9).toArray rfl rfl 56 _ b6 sizeNd rfl (ndL_one _ _ _ _ E9.one) ?_); intro wt ft bt; have b5 := b5.one ft h56; have E9 := EntS.oneN E9 HV.out b6 ft; have ea5 := EntS.oneN ea5 HV.out b6 ft; have F := F.one ft (.inl rfl); clear b6 bs ea))
      rw [HS.out]
      refine HK.out _ _ (Handed.intro (n - 1) (by have := HN.out; omega) (HJ.out _ _ _ ⟨i + 1, ex_u ⟨R.1, v9, by have := HN.out; omega, F, bt, E9, b5, ea5, PN.out⟩ rfl⟩))
    · have PN := PN.out
      rw [if_neg hr0] at PN
      have PN := Kp.mk PN
      go_wp2_with fail
      rw [HS.out]
      refine HK.out _ _ (Handed.intro (n - 1) (by have := HN.out; omega) (HJ.out _ _ _ ⟨i + 1, ex_u ⟨a, va, by have := HN.out; omega, F, b6, ea, b5, ea5, PN.out⟩ rfl⟩))
  · obtain rfl : i = xs.length := by have := HN.out; omega
    have hz : (xs.length : Int) - 1 - (xs.length : Int) = -1 := by omega
    rw [hz]
    go_wp2_with fail
    exact K_u (K := Q .normal) (fun u => HQ.out u a va _ F.out b5 ea5 b6 ea PA.out) rfl
end Go.Proofs.Ytenlokbfjajbbaa.Nd
