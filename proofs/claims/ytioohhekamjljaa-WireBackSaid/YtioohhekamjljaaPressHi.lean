/- digest.press, a part. -/
import Derived.Test.YtioohhekamjljaaPressDefs
set_option linter.unusedSimpArgs false
set_option linter.unusedVariables false
namespace Go.Proofs.Ytioohhekamjljaa.Press
open Go Go.RowKit Go.Proofs.Ytioohhekamjljaa.Sha Go.Proofs.YtioohhekamjljaaW.PrintWords Go.Proofs.YtioohhekamjljaaW.PrintLast Go.Proofs.Ytioohhekamjljaa.PWireTells Go.Proofs.Ytioohhekamjljaa.Reg Go.Proofs.Ytioohhekamjljaa.Ev
set_option maxHeartbeats 4000000 in
set_option maxRecDepth 100000 in
theorem press_hi (gh gk gt gw gv t : Nat) (H T : List Int) (s : ByteArray) (w W : World) (u : Nat → Value)
    (ht : t < 64) (h16 : ¬ t < 16) (f0 : Fr No w W) (bw : Arr W gw 114 (pad s t)) (bv : Arr W gv 113 (vs s H T t)) (hgw : w.heap.size ≤ gw) (hgv : w.heap.size ≤ gv) (Q : Exit → Act → World → Prop)
    (hQ : ∀ W', Fr No w W' → Arr W' gw 114 (pad s (t + 1)) → Arr W' gv 113 (vs s H T t) → ∀ u : Nat → Value, Q .normal { tmps := List.toArray (.pointer (some ⟨gh, 0, none⟩) :: .pointer (some ⟨gk, 0, none⟩) :: .pointer (some ⟨gt, 0, none⟩) :: .string s :: undef :: undef :: undef :: undef :: .pointer (some ⟨gw, 0, none⟩) :: .pointer (some ⟨gv, 0, none⟩) :: .int .i64 (t : Int) :: undef :: u 12 :: u 13 :: u 14 :: u 15 :: u 16 :: u 17 :: u 18 :: u 19 :: u 20 :: u 21 :: u 22 :: u 23 :: u 24 :: u 25 :: u 26 :: u 27 :: u 28 :: u 29 :: u 30 :: u 31 :: u 32 :: u 33 :: u 34 :: u 35 :: u 36 :: u 37 :: u 38 :: u 39 :: u 40 :: u 41 :: u 42 :: u 43 :: u 44 :: u 45 :: u 46 :: u 47 :: u 48 :: u 49 :: u 50 :: u 51 :: u 52 :: u 53 :: u 54 :: u 55 :: u 56 :: u 57 :: u 58 :: u 59 :: u 60 :: u 61 :: u 62 :: u 63 :: u 64 :: u 65 :: u 66 :: u 67 :: u 68 :: u 69 :: u 70 :: u 71 :: u 72 :: u 73 :: u 74 :: u 75 :: u 76 :: u 77 :: u 78 :: u 79 :: u 80 :: u 81 :: u 82 :: u 83 :: u 84 :: u 85 :: u 86 :: u 87 :: u 88 :: u 89 :: u 90 :: u 91 :: u 92 :: u 93 :: u 94 :: u 95 :: u 96 :: u 97 :: u 98 :: u 99 :: u 100 :: u 101 :: u 102 :: u 103 :: u 104 :: u 105 :: u 106 :: u 107 :: u 108 :: u 109 :: u 110 :: u 111 :: u 112 :: u 113 :: u 114 :: u 115 :: u 116 :: u 117 :: u 118 :: u 119 :: u 120 :: u 121 :: u 122 :: u 123 :: u 124 :: u 125 :: u 126 :: u 127 :: u 128 :: u 129 :: u 130 :: u 131 :: u 132 :: u 133 :: u 134 :: u 135 :: u 136 :: u 137 :: u 138 :: u 139 :: u 140 :: u 141 :: u 142 :: u 143 :: u 144 :: u 145 :: u 146 :: u 147 :: u 148 :: u 149 :: u 150 :: u 151 :: u 152 :: u 153 :: u 154 :: u 155 :: u 156 :: u 157 :: u 158 :: u 159 :: u 160 :: u 161 :: u 162 :: u 163 :: u 164 :: u 165 :: u 166 :: u 167 :: u 168 :: u 169 :: u 170 :: u 171 :: u 172 :: u 173 :: u 174 :: u 175 :: u 176 :: u 177 :: u 178 :: u 179 :: u 180 :: u 181 :: u 182 :: u 183 :: u 184 :: u 185 :: []), defers := [] } W') :
    Code.wp Try.prog (sub [0, 1, 1, 1, 0] body55) Q { tmps := List.toArray (.pointer (some ⟨gh, 0, none⟩) :: .pointer (some ⟨gk, 0, none⟩) :: .pointer (some ⟨gt, 0, none⟩) :: .string s :: undef :: undef :: undef :: undef :: .pointer (some ⟨gw, 0, none⟩) :: .pointer (some ⟨gv, 0, none⟩) :: .int .i64 (t : Int) :: undef :: u 12 :: u 13 :: u 14 :: u 15 :: u 16 :: u 17 :: u 18 :: u 19 :: u 20 :: u 21 :: u 22 :: u 23 :: u 24 :: u 25 :: u 26 :: u 27 :: u 28 :: u 29 :: u 30 :: u 31 :: u 32 :: u 33 :: u 34 :: u 35 :: u 36 :: u 37 :: u 38 :: u 39 :: u 40 :: u 41 :: u 42 :: u 43 :: u 44 :: u 45 :: u 46 :: u 47 :: u 48 :: u 49 :: u 50 :: u 51 :: u 52 :: u 53 :: u 54 :: u 55 :: u 56 :: u 57 :: u 58 :: u 59 :: u 60 :: u 61 :: u 62 :: u 63 :: u 64 :: u 65 :: u 66 :: u 67 :: u 68 :: u 69 :: u 70 :: u 71 :: u 72 :: u 73 :: u 74 :: u 75 :: u 76 :: u 77 :: u 78 :: u 79 :: u 80 :: u 81 :: u 82 :: u 83 :: u 84 :: u 85 :: u 86 :: u 87 :: u 88 :: u 89 :: u 90 :: u 91 :: u 92 :: u 93 :: u 94 :: u 95 :: u 96 :: u 97 :: u 98 :: u 99 :: u 100 :: u 101 :: u 102 :: u 103 :: u 104 :: u 105 :: u 106 :: u 107 :: u 108 :: u 109 :: u 110 :: u 111 :: u 112 :: u 113 :: u 114 :: u 115 :: u 116 :: u 117 :: u 118 :: u 119 :: u 120 :: u 121 :: u 122 :: u 123 :: u 124 :: u 125 :: u 126 :: u 127 :: u 128 :: u 129 :: u 130 :: u 131 :: u 132 :: u 133 :: u 134 :: u 135 :: u 136 :: u 137 :: u 138 :: u 139 :: u 140 :: u 141 :: u 142 :: u 143 :: u 144 :: u 145 :: u 146 :: u 147 :: u 148 :: u 149 :: u 150 :: u 151 :: u 152 :: u 153 :: u 154 :: u 155 :: u 156 :: u 157 :: u 158 :: u 159 :: u 160 :: u 161 :: u 162 :: u 163 :: u 164 :: u 165 :: u 166 :: u 167 :: u 168 :: u 169 :: u 170 :: u 171 :: u 172 :: u 173 :: u 174 :: u 175 :: u 176 :: u 177 :: u 178 :: u 179 :: u 180 :: u 181 :: u 182 :: u 183 :: u 184 :: u 185 :: []), defers := [] } W := by
  conv => arg 2; whnf
  have hwv := Blk.ne bw bv (by decide)
  obtain ⟨j, rfl⟩ : ∃ j, t = j + 16 := ⟨t - 16, by omega⟩
  have hl := pad_len s (j + 16) (by omega)
  have c15 := bw.at_ (j + 1) (by omega)
  have c2 := bw.at_ (j + 14) (by omega)
  have c16 := bw.at_ j (by omega)
  have c7 := bw.at_ (j + 9) (by omega)
  have hw := wt_hi s j (by omega)
  generalize (pad s (j + 16)).getD (j + 1) 0 = p at *
  generalize (pad s (j + 16)).getD (j + 14) 0 = q at *
  generalize (pad s (j + 16)).getD j 0 = r at *
  generalize (pad s (j + 16)).getD (j + 9) 0 = z at *
  have Hw := Kp.mk hw
  have HL := Kp.mk hl
  have HT := Kp.mk hQ
  clear hw hl hQ
  rw [Int.natCast_add, show ((16 : Nat) : Int) = 16 from rfl]
  go_wp2_with fail
  go_quiet (fail)
  go_wp2_with fail
  refine wp_region_drawn_tail 29 (by kernel_rfl) (by kernel_rfl) ?_
  simp only [List.take_succ_cons, List.take_zero, List.drop_succ_cons, List.drop_zero]
  repeat (go_big_quiet_step (exact quiet2 (rot_any _ _ (by decide) (by decide))))
  refine wpQuiet_nil ?_
  rintro _ ⟨m, rfl⟩
  refine ev_store rfl 66 (.tmp 84) (.tmp 83) rfl gw (j + 16) (.int .u32 (wnx p q r z)) rfl (by simp [go_sem, wnx, sg0, sg1, Int.add_assoc]) rfl 114 _ (Blk.drewN (Blk.drewN bw _) _) (by rw [nums_length, HL.out]; omega) size81 ?_
  intro w1 f1 bw1
  go_wp2_with fail
  refine K_u (HT.out w1 (((f0.drewN _).drewN _).one f1 (.inr hgw)) ?_ (Blk.one (Blk.drewN (Blk.drewN bv _) _) f1 (Ne.symm hwv))) rfl
  rw [pad_succ s (j + 16) ht, Hw.out]
  simpa [Arr, nums, List.map_set] using bw1
end Go.Proofs.Ytioohhekamjljaa.Press
