/- The reference's Sum: the first sixteen words. -/
import Derived.Test.YtaohfmmapammcaaDoorRefDefs
set_option linter.unusedSimpArgs false
set_option linter.unusedVariables false
namespace Go.Proofs.YtaohfmmapammcaaDoor.RefSum
open Go Go.RowKit Go.Proofs.YtaohfmmapammcaaDoor.Sha Go.Proofs.YtaohfmmapammcaaDoorW.PrintWords Go.Proofs.YtaohfmmapammcaaDoorW.PrintLast Go.Proofs.YtaohfmmapammcaaDoor.PChunkTells Go.Proofs.YtaohfmmapammcaaDoor.Reg Go.Proofs.YtaohfmmapammcaaDoor.Ev Go.Proofs.YtaohfmmapammcaaDoor.Press Go.Proofs.YtaohfmmapammcaaDoor.Dig
set_option maxHeartbeats 4000000 in
set_option maxRecDepth 100000 in
theorem ref_lo (g3 N c g6 g7 o gw t : Nat) (s : ByteArray) (W : World) (u : Nat → Value)
    (ht : t < 64) (h16 : t < 16) (ho : o + 64 ≤ N) (hN : N ≤ 4398046511104) (hg : g3 ≠ gw) (hb : Bytes W g3 o s) (bw : Arr W gw 63 (pad s t)) (Q : Exit → Act → World → Prop)
    (hQ : ∀ W', Fr (One gw) W W' → Arr W' gw 63 (pad s (t + 1)) → ∀ u : Nat → Value, Q .normal { tmps := List.toArray (u 0 :: undef :: u 2 :: .slice (some ⟨g3, 0, none⟩) N c :: u 4 :: u 5 :: .pointer (some ⟨g6, 0, none⟩) :: .pointer (some ⟨g7, 0, none⟩) :: .int .i64 (o : Int) :: .pointer (some ⟨gw, 0, none⟩) :: .int .i64 (t : Int) :: u 11 :: u 12 :: u 13 :: u 14 :: u 15 :: u 16 :: u 17 :: u 18 :: u 19 :: u 20 :: u 21 :: u 22 :: u 23 :: u 24 :: u 25 :: u 26 :: u 27 :: u 28 :: u 29 :: u 30 :: u 31 :: u 32 :: u 33 :: u 34 :: u 35 :: u 36 :: u 37 :: u 38 :: u 39 :: u 40 :: u 41 :: u 42 :: u 43 :: u 44 :: u 45 :: u 46 :: u 47 :: u 48 :: u 49 :: u 50 :: u 51 :: u 52 :: u 53 :: u 54 :: u 55 :: u 56 :: u 57 :: u 58 :: u 59 :: u 60 :: u 61 :: u 62 :: u 63 :: u 64 :: u 65 :: u 66 :: u 67 :: u 68 :: u 69 :: u 70 :: u 71 :: u 72 :: u 73 :: u 74 :: u 75 :: u 76 :: u 77 :: u 78 :: u 79 :: u 80 :: u 81 :: u 82 :: u 83 :: u 84 :: u 85 :: u 86 :: u 87 :: u 88 :: u 89 :: u 90 :: u 91 :: u 92 :: u 93 :: u 94 :: u 95 :: u 96 :: u 97 :: u 98 :: u 99 :: u 100 :: u 101 :: u 102 :: u 103 :: u 104 :: u 105 :: u 106 :: u 107 :: u 108 :: u 109 :: u 110 :: u 111 :: u 112 :: u 113 :: u 114 :: u 115 :: u 116 :: u 117 :: u 118 :: u 119 :: u 120 :: u 121 :: u 122 :: u 123 :: u 124 :: u 125 :: u 126 :: u 127 :: u 128 :: u 129 :: u 130 :: u 131 :: u 132 :: u 133 :: u 134 :: u 135 :: u 136 :: u 137 :: u 138 :: u 139 :: u 140 :: u 141 :: u 142 :: u 143 :: u 144 :: u 145 :: u 146 :: u 147 :: u 148 :: u 149 :: u 150 :: u 151 :: u 152 :: u 153 :: u 154 :: u 155 :: u 156 :: u 157 :: u 158 :: u 159 :: u 160 :: u 161 :: u 162 :: u 163 :: u 164 :: u 165 :: u 166 :: u 167 :: u 168 :: u 169 :: u 170 :: u 171 :: u 172 :: u 173 :: u 174 :: u 175 :: u 176 :: u 177 :: u 178 :: u 179 :: u 180 :: u 181 :: u 182 :: u 183 :: u 184 :: u 185 :: u 186 :: u 187 :: u 188 :: u 189 :: u 190 :: u 191 :: u 192 :: u 193 :: u 194 :: u 195 :: u 196 :: u 197 :: u 198 :: u 199 :: u 200 :: u 201 :: u 202 :: u 203 :: u 204 :: u 205 :: u 206 :: u 207 :: u 208 :: u 209 :: u 210 :: u 211 :: u 212 :: u 213 :: u 214 :: u 215 :: u 216 :: u 217 :: u 218 :: u 219 :: u 220 :: u 221 :: u 222 :: u 223 :: u 224 :: u 225 :: u 226 :: u 227 :: u 228 :: u 229 :: u 230 :: u 231 :: u 232 :: u 233 :: u 234 :: u 235 :: u 236 :: u 237 :: u 238 :: u 239 :: u 240 :: u 241 :: u 242 :: u 243 :: u 244 :: u 245 :: u 246 :: u 247 :: u 248 :: u 249 :: u 250 :: u 251 :: u 252 :: u 253 :: u 254 :: u 255 :: u 256 :: u 257 :: u 258 :: u 259 :: u 260 :: u 261 :: u 262 :: u 263 :: u 264 :: u 265 :: u 266 :: u 267 :: u 268 :: u 269 :: u 270 :: u 271 :: u 272 :: u 273 :: u 274 :: []), defers := [] } W') :
    Code.wp Tryd.prog (sub [1,1,1,1,1,1,1,1,1,0,1,0,0,1,0,0,1,0,1,0,0,1,0,0,1,0] body14) Q { tmps := List.toArray (u 0 :: undef :: u 2 :: .slice (some ⟨g3, 0, none⟩) N c :: u 4 :: u 5 :: .pointer (some ⟨g6, 0, none⟩) :: .pointer (some ⟨g7, 0, none⟩) :: .int .i64 (o : Int) :: .pointer (some ⟨gw, 0, none⟩) :: .int .i64 (t : Int) :: u 11 :: u 12 :: u 13 :: u 14 :: u 15 :: u 16 :: u 17 :: u 18 :: u 19 :: u 20 :: u 21 :: u 22 :: u 23 :: u 24 :: u 25 :: u 26 :: u 27 :: u 28 :: u 29 :: u 30 :: u 31 :: u 32 :: u 33 :: u 34 :: u 35 :: u 36 :: u 37 :: u 38 :: u 39 :: u 40 :: u 41 :: u 42 :: u 43 :: u 44 :: u 45 :: u 46 :: u 47 :: u 48 :: u 49 :: u 50 :: u 51 :: u 52 :: u 53 :: u 54 :: u 55 :: u 56 :: u 57 :: u 58 :: u 59 :: u 60 :: u 61 :: u 62 :: u 63 :: u 64 :: u 65 :: u 66 :: u 67 :: u 68 :: u 69 :: u 70 :: u 71 :: u 72 :: u 73 :: u 74 :: u 75 :: u 76 :: u 77 :: u 78 :: u 79 :: u 80 :: u 81 :: u 82 :: u 83 :: u 84 :: u 85 :: u 86 :: u 87 :: u 88 :: u 89 :: u 90 :: u 91 :: u 92 :: u 93 :: u 94 :: u 95 :: u 96 :: u 97 :: u 98 :: u 99 :: u 100 :: u 101 :: u 102 :: u 103 :: u 104 :: u 105 :: u 106 :: u 107 :: u 108 :: u 109 :: u 110 :: u 111 :: u 112 :: u 113 :: u 114 :: u 115 :: u 116 :: u 117 :: u 118 :: u 119 :: u 120 :: u 121 :: u 122 :: u 123 :: u 124 :: u 125 :: u 126 :: u 127 :: u 128 :: u 129 :: u 130 :: u 131 :: u 132 :: u 133 :: u 134 :: u 135 :: u 136 :: u 137 :: u 138 :: u 139 :: u 140 :: u 141 :: u 142 :: u 143 :: u 144 :: u 145 :: u 146 :: u 147 :: u 148 :: u 149 :: u 150 :: u 151 :: u 152 :: u 153 :: u 154 :: u 155 :: u 156 :: u 157 :: u 158 :: u 159 :: u 160 :: u 161 :: u 162 :: u 163 :: u 164 :: u 165 :: u 166 :: u 167 :: u 168 :: u 169 :: u 170 :: u 171 :: u 172 :: u 173 :: u 174 :: u 175 :: u 176 :: u 177 :: u 178 :: u 179 :: u 180 :: u 181 :: u 182 :: u 183 :: u 184 :: u 185 :: u 186 :: u 187 :: u 188 :: u 189 :: u 190 :: u 191 :: u 192 :: u 193 :: u 194 :: u 195 :: u 196 :: u 197 :: u 198 :: u 199 :: u 200 :: u 201 :: u 202 :: u 203 :: u 204 :: u 205 :: u 206 :: u 207 :: u 208 :: u 209 :: u 210 :: u 211 :: u 212 :: u 213 :: u 214 :: u 215 :: u 216 :: u 217 :: u 218 :: u 219 :: u 220 :: u 221 :: u 222 :: u 223 :: u 224 :: u 225 :: u 226 :: u 227 :: u 228 :: u 229 :: u 230 :: u 231 :: u 232 :: u 233 :: u 234 :: u 235 :: u 236 :: u 237 :: u 238 :: u 239 :: u 240 :: u 241 :: u 242 :: u 243 :: u 244 :: u 245 :: u 246 :: u 247 :: u 248 :: u 249 :: u 250 :: u 251 :: u 252 :: u 253 :: u 254 :: u 255 :: u 256 :: u 257 :: u 258 :: u 259 :: u 260 :: u 261 :: u 262 :: u 263 :: u 264 :: u 265 :: u 266 :: u 267 :: u 268 :: u 269 :: u 270 :: u 271 :: u 272 :: u 273 :: u 274 :: []), defers := [] } W := by
  conv => arg 2; whnf
  have HT := Kp.mk hQ
  have hw := wt_lo s t h16
  rw [acc4] at hw
  have c0 := hb.out (4 * t) (by omega)
  have c1 := hb.out (4 * t + 1) (by omega)
  have c2 := hb.out (4 * t + 2) (by omega)
  have c3 := hb.out (4 * t + 3) (by omega)
  have Rg : Kp ((0 ≤ bAt s (4 * t) ∧ bAt s (4 * t) ≤ 255) ∧ (0 ≤ bAt s (4 * t + 1) ∧ bAt s (4 * t + 1) ≤ 255) ∧ (0 ≤ bAt s (4 * t + 2) ∧ bAt s (4 * t + 2) ≤ 255) ∧ (0 ≤ bAt s (4 * t + 3) ∧ bAt s (4 * t + 3) ≤ 255)) := ⟨bAt_range _ _, bAt_range _ _, bAt_range _ _, bAt_range _ _⟩
  generalize bAt s (4 * t) = q0 at *
  generalize bAt s (4 * t + 1) = q1 at *
  generalize bAt s (4 * t + 2) = q2 at *
  generalize bAt s (4 * t + 3) = q3 at *
  rw [← Nat.add_assoc] at c1 c2 c3
  have Hw := Kp.mk hw
  clear hw hQ hb
  refine wp_region_drawn_tail 43 (by kernel_rfl) (by kernel_rfl) ?_
  simp only [List.take_succ_cons, List.take_zero, List.drop_succ_cons, List.drop_zero]
  repeat (go_big_quiet_step (fail))
  refine wpQuiet_nil ?_
  rintro _ ⟨m, rfl⟩
  refine ev_store rfl 61 (.tmp 108) (.tmp 107) rfl gw t (.int .u32 (word4 q0 q1 q2 q3)) rfl (by simp [go_sem, word4]; have := Rg.out; omega) rfl 63 _ (Blk.drewN bw _) (by rw [nums_length, pad_len _ _ (by omega)]; omega) size81 ?_
  intro w1 f1 bw1
  go_wp2_with fail
  refine K_u (HT.out w1 ((Fr.drewN (Fr.refl _ _) _).trans f1 (fun i h => .inl h)) ?_) rfl
  rw [pad_succ s t ht, Hw.out]
  simpa [Arr, nums, List.map_set] using bw1
end Go.Proofs.YtaohfmmapammcaaDoor.RefSum
