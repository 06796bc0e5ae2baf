/- digest.press, a part. -/
import Derived.Test.YtioohhekamjljaaPressDefs
set_option linter.unusedSimpArgs false
set_option linter.unusedVariables false
namespace Go.Proofs.Ytioohhekamjljaa.Press
open Go Go.RowKit Go.Proofs.Ytioohhekamjljaa.Sha Go.Proofs.YtioohhekamjljaaW.PrintWords Go.Proofs.YtioohhekamjljaaW.PrintLast Go.Proofs.Ytioohhekamjljaa.PWireTells Go.Proofs.Ytioohhekamjljaa.Reg Go.Proofs.Ytioohhekamjljaa.Ev
set_option maxHeartbeats 4000000 in
set_option maxRecDepth 100000 in
theorem press_lo (gh gk gt gw gv t : Nat) (H T : List Int) (s : ByteArray) (w W : World) (u : Nat → Value)
    (hs : 64 ≤ s.size) (hs2 : s.size ≤ 9223372036854775807)
    (ht : t < 64) (h16 : t < 16) (f0 : Fr No w W) (bw : Arr W gw 114 (pad s t)) (bv : Arr W gv 113 (vs s H T t)) (hgw : w.heap.size ≤ gw) (hgv : w.heap.size ≤ gv) (Q : Exit → Act → World → Prop)
    (hQ : ∀ W', Fr No w W' → Arr W' gw 114 (pad s (t + 1)) → Arr W' gv 113 (vs s H T t) → ∀ u : Nat → Value, Q .normal { tmps := List.toArray (.pointer (some ⟨gh, 0, none⟩) :: .pointer (some ⟨gk, 0, none⟩) :: .pointer (some ⟨gt, 0, none⟩) :: .string s :: undef :: undef :: undef :: undef :: .pointer (some ⟨gw, 0, none⟩) :: .pointer (some ⟨gv, 0, none⟩) :: .int .i64 (t : Int) :: undef :: u 12 :: u 13 :: u 14 :: u 15 :: u 16 :: u 17 :: u 18 :: u 19 :: u 20 :: u 21 :: u 22 :: u 23 :: u 24 :: u 25 :: u 26 :: u 27 :: u 28 :: u 29 :: u 30 :: u 31 :: u 32 :: u 33 :: u 34 :: u 35 :: u 36 :: u 37 :: u 38 :: u 39 :: u 40 :: u 41 :: u 42 :: u 43 :: u 44 :: u 45 :: u 46 :: u 47 :: u 48 :: u 49 :: u 50 :: u 51 :: u 52 :: u 53 :: u 54 :: u 55 :: u 56 :: u 57 :: u 58 :: u 59 :: u 60 :: u 61 :: u 62 :: u 63 :: u 64 :: u 65 :: u 66 :: u 67 :: u 68 :: u 69 :: u 70 :: u 71 :: u 72 :: u 73 :: u 74 :: u 75 :: u 76 :: u 77 :: u 78 :: u 79 :: u 80 :: u 81 :: u 82 :: u 83 :: u 84 :: u 85 :: u 86 :: u 87 :: u 88 :: u 89 :: u 90 :: u 91 :: u 92 :: u 93 :: u 94 :: u 95 :: u 96 :: u 97 :: u 98 :: u 99 :: u 100 :: u 101 :: u 102 :: u 103 :: u 104 :: u 105 :: u 106 :: u 107 :: u 108 :: u 109 :: u 110 :: u 111 :: u 112 :: u 113 :: u 114 :: u 115 :: u 116 :: u 117 :: u 118 :: u 119 :: u 120 :: u 121 :: u 122 :: u 123 :: u 124 :: u 125 :: u 126 :: u 127 :: u 128 :: u 129 :: u 130 :: u 131 :: u 132 :: u 133 :: u 134 :: u 135 :: u 136 :: u 137 :: u 138 :: u 139 :: u 140 :: u 141 :: u 142 :: u 143 :: u 144 :: u 145 :: u 146 :: u 147 :: u 148 :: u 149 :: u 150 :: u 151 :: u 152 :: u 153 :: u 154 :: u 155 :: u 156 :: u 157 :: u 158 :: u 159 :: u 160 :: u 161 :: u 162 :: u 163 :: u 164 :: u 165 :: u 166 :: u 167 :: u 168 :: u 169 :: u 170 :: u 171 :: u 172 :: u 173 :: u 174 :: u 175 :: u 176 :: u 177 :: u 178 :: u 179 :: u 180 :: u 181 :: u 182 :: u 183 :: u 184 :: u 185 :: []), defers := [] } W') :
    Code.wp Try.prog (sub [0, 1, 1, 1, 0] body55) Q { tmps := List.toArray (.pointer (some ⟨gh, 0, none⟩) :: .pointer (some ⟨gk, 0, none⟩) :: .pointer (some ⟨gt, 0, none⟩) :: .string s :: undef :: undef :: undef :: undef :: .pointer (some ⟨gw, 0, none⟩) :: .pointer (some ⟨gv, 0, none⟩) :: .int .i64 (t : Int) :: undef :: u 12 :: u 13 :: u 14 :: u 15 :: u 16 :: u 17 :: u 18 :: u 19 :: u 20 :: u 21 :: u 22 :: u 23 :: u 24 :: u 25 :: u 26 :: u 27 :: u 28 :: u 29 :: u 30 :: u 31 :: u 32 :: u 33 :: u 34 :: u 35 :: u 36 :: u 37 :: u 38 :: u 39 :: u 40 :: u 41 :: u 42 :: u 43 :: u 44 :: u 45 :: u 46 :: u 47 :: u 48 :: u 49 :: u 50 :: u 51 :: u 52 :: u 53 :: u 54 :: u 55 :: u 56 :: u 57 :: u 58 :: u 59 :: u 60 :: u 61 :: u 62 :: u 63 :: u 64 :: u 65 :: u 66 :: u 67 :: u 68 :: u 69 :: u 70 :: u 71 :: u 72 :: u 73 :: u 74 :: u 75 :: u 76 :: u 77 :: u 78 :: u 79 :: u 80 :: u 81 :: u 82 :: u 83 :: u 84 :: u 85 :: u 86 :: u 87 :: u 88 :: u 89 :: u 90 :: u 91 :: u 92 :: u 93 :: u 94 :: u 95 :: u 96 :: u 97 :: u 98 :: u 99 :: u 100 :: u 101 :: u 102 :: u 103 :: u 104 :: u 105 :: u 106 :: u 107 :: u 108 :: u 109 :: u 110 :: u 111 :: u 112 :: u 113 :: u 114 :: u 115 :: u 116 :: u 117 :: u 118 :: u 119 :: u 120 :: u 121 :: u 122 :: u 123 :: u 124 :: u 125 :: u 126 :: u 127 :: u 128 :: u 129 :: u 130 :: u 131 :: u 132 :: u 133 :: u 134 :: u 135 :: u 136 :: u 137 :: u 138 :: u 139 :: u 140 :: u 141 :: u 142 :: u 143 :: u 144 :: u 145 :: u 146 :: u 147 :: u 148 :: u 149 :: u 150 :: u 151 :: u 152 :: u 153 :: u 154 :: u 155 :: u 156 :: u 157 :: u 158 :: u 159 :: u 160 :: u 161 :: u 162 :: u 163 :: u 164 :: u 165 :: u 166 :: u 167 :: u 168 :: u 169 :: u 170 :: u 171 :: u 172 :: u 173 :: u 174 :: u 175 :: u 176 :: u 177 :: u 178 :: u 179 :: u 180 :: u 181 :: u 182 :: u 183 :: u 184 :: u 185 :: []), defers := [] } W := by
  conv => arg 2; whnf
  have hwv := Blk.ne bw bv (by decide)
  have hgvlt := bv.lt
  have HT := Kp.mk hQ
  have b1 : (0 : Int) ≤ 4 * (t : Int) := by omega
  have b2 : 4 * (t : Int) ≤ 4 * (t : Int) + 4 := by omega
  have b3 : 4 * (t : Int) + 4 ≤ (s.size : Int) := by omega
  have bW := Kp.mk bw
  have hmin : min (4 * t + 4) s.size - 4 * t = 4 := by omega
  clear bw hQ
  go_wp2_with ((with_reducible refine gate_dst (N := 32) rfl ?_); refine ev_bytes rfl 9 67 (.tmp 31) rfl _ rfl 5 Try.underlying9 Try.underlying67 Try.underlying5 ?_; intro gb cb w1 hgb hgb2 hcb f1 cbs)
  have hsz : (s.extract (4 * t) (4 * t + 4)).size = 4 := by rw [ByteArray.size_extract]; omega
  have cbs' : ∀ j, j < 4 → w1.cell? ⟨gb, j, none⟩ = some (.int .u8 (bAt s (4 * t + j))) := fun j hj => by
    rw [cbs j (by omega), bAt_extract s _ _ _ (by omega)]
  have CBS := Kp.mk cbs'
  have bw0 : Arr w1 gw 114 ((pad s t).set t (acc s t 0)) := by rw [pad_acc0 s t ht]; exact bW.out.no f1
  have bv0 := Kp.mk (Blk.no bv f1)
  have f2 := Kp.mk (f0.no f1)
  have BW := Kp.mk bw0
  have hgwW := bW.out.lt
  clear cbs cbs' hsz bw0 f0 f1 bW bv hcb hmin
  go_loopg [34] 4 (fun kq v34 wr => ∃ k : Nat, k + kq = 4 ∧ v34 = .int .i64 k ∧ Kp (Fr No w wr) ∧ Kp (Arr wr gw 114 ((pad s t).set t (acc s t k))) ∧ Kp (Blk wr gv 113 (nums .u32 (vs s H T t))) ∧ Kp (∀ j, j < 4 → wr.cell? ⟨gb, j, none⟩ = some (.int .u8 (bAt s (4 * t + j)))))
  case atStart => exact ⟨0, rfl, rfl, f2, BW, bv0, CBS⟩
  case round =>
    clear CBS BW bv0 f2
    obtain ⟨k, hk, rfl, f2, BW, BV, CBS⟩ := hrel
    by_cases hk4 : k < 4
    · have cb := CBS.out k hk4
      have cw := Arr.at_ BW.out t (by rw [List.length_set, pad_len _ _ (by omega)]; omega)
      have hac : ((pad s t).set t (acc s t k)).getD t 0 = acc s t k := by
        have := pad_len s t (by omega)
        simp [List.getD_eq_getElem?_getD, List.getElem?_set, this, ht]
      rw [hac] at cw
      have hr := bAt_range s (4 * t + k)
      have HA : Kp (acc s t (k + 1) = Go.bits .or .u32 ((acc s t k * 256) % 4294967296) (bAt s (4 * t + k))) := ⟨rfl⟩
      generalize bAt s (4 * t + k) = q at cb hr HA
      generalize acc s t k = r at cw HA
      have HK := Kp.mk hk
      have hr1 := hr.1
      have hr3 := hr.2
      clear hac hk hr
      go_wp2_with ((with_reducible refine gate_store (t := 66) (p := 46) rfl ?_); refine ev_store rfl 66 (.tmp 46) (.tmp 45) rfl gw t (.int .u32 (Go.bits .or .u32 ((r * 256) % 4294967296) q)) rfl rfl rfl 114 _ BW.out (by rw [nums_length, List.length_set, pad_len _ _ (by omega)]; omega) size81 ?_; intro w2 f3 bw2)
      go_roundg (gk - 1)
      case measure => have := HK.out; omega
      case rel =>
        have hne : ¬ (One gw) gb := fun h => by have h2 : gb = gw := h; omega
        refine ⟨k + 1, by have := HK.out; omega, by go_num, ⟨f2.out.one f3 (.inr hgw)⟩, ⟨?_⟩, ⟨BV.out.one f3 (Ne.symm hwv)⟩, ⟨fun j hj => Fr.cell (CBS.out j hj) f3 hne⟩⟩
        rw [HA.out]
        simpa [Arr, nums, List.map_set, List.set_set] using bw2
    · obtain rfl : k = 4 := by omega
      go_wp2_with fail
      refine K_u (HT.out wr f2.out ?_ BV.out) rfl
      rw [pad_succ s t ht, wt_lo s t h16]
      exact BW.out
end Go.Proofs.Ytioohhekamjljaa.Press
