/- The reference's Sum: a round. -/
import Derived.Test.YtaohfmmapammcaaDoorRefDefs
import Derived.Deep.CutBlock
set_option linter.unusedSimpArgs false
set_option linter.unusedVariables false
namespace Go.Proofs.YtaohfmmapammcaaDoor.RefSum
open Go Go.RowKit Go.Proofs.YtaohfmmapammcaaDoor.Sha Go.Proofs.YtaohfmmapammcaaDoorW.PrintWords Go.Proofs.YtaohfmmapammcaaDoorW.PrintLast Go.Proofs.YtaohfmmapammcaaDoor.PChunkTells Go.Proofs.YtaohfmmapammcaaDoor.Reg Go.Proofs.YtaohfmmapammcaaDoor.Ev Go.Proofs.YtaohfmmapammcaaDoor.Press Go.Proofs.YtaohfmmapammcaaDoor.Dig
theorem wsl_at (s : ByteArray) : ∀ (m t : Nat), t < m → (wsl s m).getD t 0 = wt s t
  | 0, t, h => by omega
  | m + 1, t, h => by
    by_cases hm : t < m
    · rw [wsl_succ, ← wsl_at s m t hm]
      simp [List.getD_eq_getElem?_getD, List.getElem?_append, wsl_len, hm]
    · obtain rfl : t = m := by omega
      rfl
theorem pad_all (s : ByteArray) (m t : Nat) (h : t < m) : (pad s m).getD t 0 = wt s t := by rw [pad_get _ _ _ h, wsl_at s m t h]
set_option maxHeartbeats 4000000 in
set_option maxRecDepth 100000 in
theorem ref_round (g3 N c g6 g7 o gw gv t : Nat) (H T : List Int) (s : ByteArray) (W : World) (u : Nat → Value)
    (ht : t < 64) (lh : H.length = 8) (lt : T.length = 64) (bt : Arr W g7 63 T) (bw : Arr W gw 63 (pad s 64)) (bv : Arr W gv 62 (vs s H T t)) (Q : Exit → Act → World → Prop)
    (hQ : ∀ W', Fr (One gv) W W' → Arr W' gv 62 (vs s H T (t + 1)) → ∀ u : Nat → Value, Q .normal { tmps := List.toArray (u 0 :: undef :: u 2 :: .slice (some ⟨g3, 0, none⟩) N c :: u 4 :: u 5 :: .pointer (some ⟨g6, 0, none⟩) :: .pointer (some ⟨g7, 0, none⟩) :: .int .i64 (o : Int) :: .pointer (some ⟨gw, 0, none⟩) :: u 10 :: u 11 :: u 12 :: .pointer (some ⟨gv, 0, none⟩) :: .int .i64 (t : Int) :: u 15 :: u 16 :: u 17 :: u 18 :: u 19 :: u 20 :: u 21 :: u 22 :: u 23 :: u 24 :: u 25 :: u 26 :: u 27 :: u 28 :: u 29 :: u 30 :: u 31 :: u 32 :: u 33 :: u 34 :: u 35 :: u 36 :: u 37 :: u 38 :: u 39 :: u 40 :: u 41 :: u 42 :: u 43 :: u 44 :: u 45 :: u 46 :: u 47 :: u 48 :: u 49 :: u 50 :: u 51 :: u 52 :: u 53 :: u 54 :: u 55 :: u 56 :: u 57 :: u 58 :: u 59 :: u 60 :: u 61 :: u 62 :: u 63 :: u 64 :: u 65 :: u 66 :: u 67 :: u 68 :: u 69 :: u 70 :: u 71 :: u 72 :: u 73 :: u 74 :: u 75 :: u 76 :: u 77 :: u 78 :: u 79 :: u 80 :: u 81 :: u 82 :: u 83 :: u 84 :: u 85 :: u 86 :: u 87 :: u 88 :: u 89 :: u 90 :: u 91 :: u 92 :: u 93 :: u 94 :: u 95 :: u 96 :: u 97 :: u 98 :: u 99 :: u 100 :: u 101 :: u 102 :: u 103 :: u 104 :: u 105 :: u 106 :: u 107 :: u 108 :: u 109 :: u 110 :: u 111 :: u 112 :: u 113 :: u 114 :: u 115 :: u 116 :: u 117 :: u 118 :: u 119 :: u 120 :: u 121 :: u 122 :: u 123 :: u 124 :: u 125 :: u 126 :: u 127 :: u 128 :: u 129 :: u 130 :: u 131 :: u 132 :: u 133 :: u 134 :: u 135 :: u 136 :: u 137 :: u 138 :: u 139 :: u 140 :: u 141 :: u 142 :: u 143 :: u 144 :: u 145 :: u 146 :: u 147 :: u 148 :: u 149 :: u 150 :: u 151 :: u 152 :: u 153 :: u 154 :: u 155 :: u 156 :: u 157 :: u 158 :: u 159 :: u 160 :: u 161 :: u 162 :: u 163 :: u 164 :: u 165 :: u 166 :: u 167 :: u 168 :: u 169 :: u 170 :: u 171 :: u 172 :: u 173 :: u 174 :: u 175 :: u 176 :: u 177 :: u 178 :: u 179 :: u 180 :: u 181 :: u 182 :: u 183 :: u 184 :: u 185 :: u 186 :: u 187 :: u 188 :: u 189 :: u 190 :: u 191 :: u 192 :: u 193 :: u 194 :: u 195 :: u 196 :: u 197 :: u 198 :: u 199 :: u 200 :: u 201 :: u 202 :: u 203 :: u 204 :: u 205 :: u 206 :: u 207 :: u 208 :: u 209 :: u 210 :: u 211 :: u 212 :: u 213 :: u 214 :: u 215 :: u 216 :: u 217 :: u 218 :: u 219 :: u 220 :: u 221 :: u 222 :: u 223 :: u 224 :: u 225 :: u 226 :: u 227 :: u 228 :: u 229 :: u 230 :: u 231 :: u 232 :: u 233 :: u 234 :: u 235 :: u 236 :: u 237 :: u 238 :: u 239 :: u 240 :: u 241 :: u 242 :: u 243 :: u 244 :: u 245 :: u 246 :: u 247 :: u 248 :: u 249 :: u 250 :: u 251 :: u 252 :: u 253 :: u 254 :: u 255 :: u 256 :: u 257 :: u 258 :: u 259 :: u 260 :: u 261 :: u 262 :: u 263 :: u 264 :: u 265 :: u 266 :: u 267 :: u 268 :: u 269 :: u 270 :: u 271 :: u 272 :: u 273 :: u 274 :: []), defers := [] } W') :
    Code.wp Tryd.prog (sub [1,1,1,1,1,1,1,1,1,0,1,0,0,1,0,0,1,1,1,0,1,0,0,1,0] body14) Q { tmps := List.toArray (u 0 :: undef :: u 2 :: .slice (some ⟨g3, 0, none⟩) N c :: u 4 :: u 5 :: .pointer (some ⟨g6, 0, none⟩) :: .pointer (some ⟨g7, 0, none⟩) :: .int .i64 (o : Int) :: .pointer (some ⟨gw, 0, none⟩) :: u 10 :: u 11 :: u 12 :: .pointer (some ⟨gv, 0, none⟩) :: .int .i64 (t : Int) :: u 15 :: u 16 :: u 17 :: u 18 :: u 19 :: u 20 :: u 21 :: u 22 :: u 23 :: u 24 :: u 25 :: u 26 :: u 27 :: u 28 :: u 29 :: u 30 :: u 31 :: u 32 :: u 33 :: u 34 :: u 35 :: u 36 :: u 37 :: u 38 :: u 39 :: u 40 :: u 41 :: u 42 :: u 43 :: u 44 :: u 45 :: u 46 :: u 47 :: u 48 :: u 49 :: u 50 :: u 51 :: u 52 :: u 53 :: u 54 :: u 55 :: u 56 :: u 57 :: u 58 :: u 59 :: u 60 :: u 61 :: u 62 :: u 63 :: u 64 :: u 65 :: u 66 :: u 67 :: u 68 :: u 69 :: u 70 :: u 71 :: u 72 :: u 73 :: u 74 :: u 75 :: u 76 :: u 77 :: u 78 :: u 79 :: u 80 :: u 81 :: u 82 :: u 83 :: u 84 :: u 85 :: u 86 :: u 87 :: u 88 :: u 89 :: u 90 :: u 91 :: u 92 :: u 93 :: u 94 :: u 95 :: u 96 :: u 97 :: u 98 :: u 99 :: u 100 :: u 101 :: u 102 :: u 103 :: u 104 :: u 105 :: u 106 :: u 107 :: u 108 :: u 109 :: u 110 :: u 111 :: u 112 :: u 113 :: u 114 :: u 115 :: u 116 :: u 117 :: u 118 :: u 119 :: u 120 :: u 121 :: u 122 :: u 123 :: u 124 :: u 125 :: u 126 :: u 127 :: u 128 :: u 129 :: u 130 :: u 131 :: u 132 :: u 133 :: u 134 :: u 135 :: u 136 :: u 137 :: u 138 :: u 139 :: u 140 :: u 141 :: u 142 :: u 143 :: u 144 :: u 145 :: u 146 :: u 147 :: u 148 :: u 149 :: u 150 :: u 151 :: u 152 :: u 153 :: u 154 :: u 155 :: u 156 :: u 157 :: u 158 :: u 159 :: u 160 :: u 161 :: u 162 :: u 163 :: u 164 :: u 165 :: u 166 :: u 167 :: u 168 :: u 169 :: u 170 :: u 171 :: u 172 :: u 173 :: u 174 :: u 175 :: u 176 :: u 177 :: u 178 :: u 179 :: u 180 :: u 181 :: u 182 :: u 183 :: u 184 :: u 185 :: u 186 :: u 187 :: u 188 :: u 189 :: u 190 :: u 191 :: u 192 :: u 193 :: u 194 :: u 195 :: u 196 :: u 197 :: u 198 :: u 199 :: u 200 :: u 201 :: u 202 :: u 203 :: u 204 :: u 205 :: u 206 :: u 207 :: u 208 :: u 209 :: u 210 :: u 211 :: u 212 :: u 213 :: u 214 :: u 215 :: u 216 :: u 217 :: u 218 :: u 219 :: u 220 :: u 221 :: u 222 :: u 223 :: u 224 :: u 225 :: u 226 :: u 227 :: u 228 :: u 229 :: u 230 :: u 231 :: u 232 :: u 233 :: u 234 :: u 235 :: u 236 :: u 237 :: u 238 :: u 239 :: u 240 :: u 241 :: u 242 :: u 243 :: u 244 :: u 245 :: u 246 :: u 247 :: u 248 :: u 249 :: u 250 :: u 251 :: u 252 :: u 253 :: u 254 :: u 255 :: u 256 :: u 257 :: u 258 :: u 259 :: u 260 :: u 261 :: u 262 :: u 263 :: u 264 :: u 265 :: u 266 :: u 267 :: u 268 :: u 269 :: u 270 :: u 271 :: u 272 :: u 273 :: u 274 :: []), defers := [] } W := by
  conv => arg 2; whnf
  obtain ⟨a0, a1, a2, a3, a4, a5, a6, a7, hV⟩ := len8 (vs_len s H T lh t)
  rw [hV] at bv
  have c0 := bv.at_ 0 (by simp)
  have c1 := bv.at_ 1 (by simp)
  have c2 := bv.at_ 2 (by simp)
  have c3 := bv.at_ 3 (by simp)
  have c4 := bv.at_ 4 (by simp)
  have c5 := bv.at_ 5 (by simp)
  have c6 := bv.at_ 6 (by simp)
  have c7 := bv.at_ 7 (by simp)
  simp only [List.getD_cons_zero, List.getD_cons_succ] at c0 c1 c2 c3 c4 c5 c6 c7
  obtain ⟨kt, hkt⟩ : ∃ x, x = T.getD t 0 := ⟨_, rfl⟩
  have cw := bw.at_ t (by rw [pad_len _ _ (by omega)]; omega)
  have ck := bt.at_ t (by rw [lt]; omega)
  rw [pad_all _ _ _ ht] at cw
  rw [← hkt] at ck
  obtain ⟨wv, hwv⟩ : ∃ x, x = wt s t := ⟨_, rfl⟩
  rw [← hwv] at cw
  have hVn : vs s H T (t + 1) = [ryq (rxq a4 a5 a6 a7 kt wv) a0 a1 a2, a0, a1, a2, (a3 + rxq a4 a5 a6 a7 kt wv) % 4294967296, a4, a5, a6] := by
    rw [vs, hV, ← hkt, ← hwv, ryq_eq, rxq_eq]; rfl
  have H1 := Kp.mk hVn
  have H2 := Kp.mk hQ
  have hsg : IntKind.u32.signed = false := rfl
  clear hV hVn hkt lh lt hQ bw bt hwv
  go_wp2_with fail
  go_quiet (first | exact quiet2 (turn_any _ _ (by decide) (by decide)) | exact quiet1 (turn_any _ _ (by decide) (by decide)))
  go_wp2_with fail
  go_quiet (fail)
  go_wp2_with fail
  go_quiet (first | exact quiet2 (turn_any _ _ (by decide) (by decide)) | exact quiet1 (turn_any _ _ (by decide) (by decide)))
  go_wp2_with ((with_reducible refine gate_store (t := 62) (p := 13) rfl ?_); refine ev_store_row rfl 62 (.tmp 13) (.tmp 249) rfl gv (nums .u32 [ryq (rxq a4 a5 a6 a7 kt wv) a0 a1 a2, a0, a1, a2, (a3 + rxq a4 a5 a6 a7 kt wv) % 4294967296, a4, a5, a6]).toArray rfl ?_ 62 _ (Blk.drewN bv _) size82 rfl (nums_one _) ?_)
  · simp [go_sem, nums, rxq, ryq, Int.add_assoc]
  intro w1 f2 bv2
  go_wp2_with fail
  refine K_u (H2.out w1 ((Fr.drewN (Fr.refl _ _) _).trans f2 (fun i h => .inl h)) ?_) rfl
  rw [H1.out]
  simpa [Arr, nums] using bv2
end Go.Proofs.YtaohfmmapammcaaDoor.RefSum
