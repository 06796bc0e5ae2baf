/- digest.press: what it leaves: the next chain, in its own block; nothing else that was there has turned. Conditions: the rows' lengths, 64 bytes. -/
import Derived.Test.YtioohhekamjljaaPressHi
import Derived.Test.YtioohhekamjljaaPressLo
import Derived.Test.YtioohhekamjljaaPressRest
set_option linter.unusedSimpArgs false
set_option linter.unusedVariables false
namespace Go.Proofs.Ytioohhekamjljaa.Press
open Go Go.RowKit Go.Proofs.Ytioohhekamjljaa.Sha Go.Proofs.YtioohhekamjljaaW.PrintWords Go.Proofs.YtioohhekamjljaaW.PrintLast Go.Proofs.Ytioohhekamjljaa.PWireTells Go.Proofs.Ytioohhekamjljaa.Reg Go.Proofs.Ytioohhekamjljaa.Ev
set_option maxHeartbeats 4000000 in
set_option maxRecDepth 100000 in
theorem press_any (gh gk gt : Nat) (H K T : List Int) (s : ByteArray) (w : World) (hs : 64 ≤ s.size) (hs2 : s.size ≤ 9223372036854775807)
    (bh : Arr w gh 113 H) (bk : Arr w gk 113 K) (bt : Arr w gt 114 T)
    (lh : H.length = 8) (lk : K.length = 8) (lt : T.length = 64) (hne : gh ≠ gk) :
    Calls Try.prog 49 #[.pointer (some ⟨gh, 0, none⟩), .pointer (some ⟨gk, 0, none⟩), .pointer (some ⟨gt, 0, none⟩), .string s] w (Pressed gk w (comp s H T)) := by
  go_enter Try.func49, Try.ntmps49
  go_wp2_with fail
  refine wp_scope_ghost 0 (fun n a' w' => ∃ (gw gv t : Nat) (u : Nat → Value), (n + t = 64 ∧ AtLabel s H T w gw gv t w') ∧ a' = { tmps := List.toArray (.pointer (some ⟨gh, 0, none⟩) :: .pointer (some ⟨gk, 0, none⟩) :: .pointer (some ⟨gt, 0, none⟩) :: .string s :: undef :: undef :: undef :: undef :: .pointer (some ⟨gw, 0, none⟩) :: .pointer (some ⟨gv, 0, none⟩) :: .int .i64 (t : Int) :: undef :: u 12 :: u 13 :: u 14 :: u 15 :: u 16 :: u 17 :: u 18 :: u 19 :: u 20 :: u 21 :: u 22 :: u 23 :: u 24 :: u 25 :: u 26 :: u 27 :: u 28 :: u 29 :: u 30 :: u 31 :: u 32 :: u 33 :: u 34 :: u 35 :: u 36 :: u 37 :: u 38 :: u 39 :: u 40 :: u 41 :: u 42 :: u 43 :: u 44 :: u 45 :: u 46 :: u 47 :: u 48 :: u 49 :: u 50 :: u 51 :: u 52 :: u 53 :: u 54 :: u 55 :: u 56 :: u 57 :: u 58 :: u 59 :: u 60 :: u 61 :: u 62 :: u 63 :: u 64 :: u 65 :: u 66 :: u 67 :: u 68 :: u 69 :: u 70 :: u 71 :: u 72 :: u 73 :: u 74 :: u 75 :: u 76 :: u 77 :: u 78 :: u 79 :: u 80 :: u 81 :: u 82 :: u 83 :: u 84 :: u 85 :: u 86 :: u 87 :: u 88 :: u 89 :: u 90 :: u 91 :: u 92 :: u 93 :: u 94 :: u 95 :: u 96 :: u 97 :: u 98 :: u 99 :: u 100 :: u 101 :: u 102 :: u 103 :: u 104 :: u 105 :: u 106 :: u 107 :: u 108 :: u 109 :: u 110 :: u 111 :: u 112 :: u 113 :: u 114 :: u 115 :: u 116 :: u 117 :: u 118 :: u 119 :: u 120 :: u 121 :: u 122 :: u 123 :: u 124 :: u 125 :: u 126 :: u 127 :: u 128 :: u 129 :: u 130 :: u 131 :: u 132 :: u 133 :: u 134 :: u 135 :: u 136 :: u 137 :: u 138 :: u 139 :: u 140 :: u 141 :: u 142 :: u 143 :: u 144 :: u 145 :: u 146 :: u 147 :: u 148 :: u 149 :: u 150 :: u 151 :: u 152 :: u 153 :: u 154 :: u 155 :: u 156 :: u 157 :: u 158 :: u 159 :: u 160 :: u 161 :: u 162 :: u 163 :: u 164 :: u 165 :: u 166 :: u 167 :: u 168 :: u 169 :: u 170 :: u 171 :: u 172 :: u 173 :: u 174 :: u 175 :: u 176 :: u 177 :: u 178 :: u 179 :: u 180 :: u 181 :: u 182 :: u 183 :: u 184 :: u 185 :: []), defers := [] }) rfl ?_ ?_
  · intro Q' hQ
    have HQ := Kp.mk hQ
    clear hQ
    have lhh := Kp.mk lh
    clear lh lk lt
    go_upto_region 2 with (first | ((with_reducible refine gate_dst (N := 8) rfl ?_); refine ev_alloc rfl 114 rfl _ (nums .u32 z64) zero83 rfl ?_; intro gw w1 hgw f1 bw) | ((with_reducible refine gate_dst (N := 9) rfl ?_); refine ev_alloc rfl 113 rfl _ (nums .u32 z8) zero82 rfl ?_; intro gv w2 hgv f2 bv) | ((with_reducible refine gate_dst (N := 22) rfl ?_); refine ev_load_row rfl 113 (.tmp 21) rfl gh rfl 113 _ (Blk.no bh f1) _ Try.underlying113 rfl (by rw [size82, nums_length, lhh.out]) ?_) | ((with_reducible refine gate_store (t := 113) (p := 9) rfl ?_); refine ev_store_row rfl 113 (.tmp 9) (.tmp 22) rfl gv _ rfl rfl 113 _ bv (by rw [size82]; simp [nums_length, lhh.out]) (by simp [nums_length, lhh.out, z8_len]) (nums_one _) ?_; intro w3 f3 bv3))
    go_step3
    go_step
    go_step
    refine HQ.out 64 _ _ ⟨gw, gv, 0, ?_⟩
    refine ex_u ⟨rfl, by omega, ((f1.no f2).one f3 (.inr (Nat.le_trans f1.size hgv))), ?_, ?_, hgw, Nat.le_trans f1.size hgv⟩ rfl
    · rw [pad_zero]; exact (bw.no f2).one f3 (by have := bw.lt; omega)
    · exact (by simpa [nums] using bv3 : Blk w3 gv 113 (nums .u32 H))
  · rintro n a' W ⟨gw, gv, t, u, ⟨hn, ht, f0, bw, bv, hgw, hgv⟩, rfl⟩ J hJ
    refine wp_seq_k (fun K' hK => ?_)
    have tail : ∀ W', Fr No w W' → Arr W' gw 114 (pad s (t + 1)) → Arr W' gv 113 (vs s H T t) → ∀ u : Nat → Value, K' { tmps := List.toArray (.pointer (some ⟨gh, 0, none⟩) :: .pointer (some ⟨gk, 0, none⟩) :: .pointer (some ⟨gt, 0, none⟩) :: .string s :: undef :: undef :: undef :: undef :: .pointer (some ⟨gw, 0, none⟩) :: .pointer (some ⟨gv, 0, none⟩) :: .int .i64 (t : Int) :: undef :: u 12 :: u 13 :: u 14 :: u 15 :: u 16 :: u 17 :: u 18 :: u 19 :: u 20 :: u 21 :: u 22 :: u 23 :: u 24 :: u 25 :: u 26 :: u 27 :: u 28 :: u 29 :: u 30 :: u 31 :: u 32 :: u 33 :: u 34 :: u 35 :: u 36 :: u 37 :: u 38 :: u 39 :: u 40 :: u 41 :: u 42 :: u 43 :: u 44 :: u 45 :: u 46 :: u 47 :: u 48 :: u 49 :: u 50 :: u 51 :: u 52 :: u 53 :: u 54 :: u 55 :: u 56 :: u 57 :: u 58 :: u 59 :: u 60 :: u 61 :: u 62 :: u 63 :: u 64 :: u 65 :: u 66 :: u 67 :: u 68 :: u 69 :: u 70 :: u 71 :: u 72 :: u 73 :: u 74 :: u 75 :: u 76 :: u 77 :: u 78 :: u 79 :: u 80 :: u 81 :: u 82 :: u 83 :: u 84 :: u 85 :: u 86 :: u 87 :: u 88 :: u 89 :: u 90 :: u 91 :: u 92 :: u 93 :: u 94 :: u 95 :: u 96 :: u 97 :: u 98 :: u 99 :: u 100 :: u 101 :: u 102 :: u 103 :: u 104 :: u 105 :: u 106 :: u 107 :: u 108 :: u 109 :: u 110 :: u 111 :: u 112 :: u 113 :: u 114 :: u 115 :: u 116 :: u 117 :: u 118 :: u 119 :: u 120 :: u 121 :: u 122 :: u 123 :: u 124 :: u 125 :: u 126 :: u 127 :: u 128 :: u 129 :: u 130 :: u 131 :: u 132 :: u 133 :: u 134 :: u 135 :: u 136 :: u 137 :: u 138 :: u 139 :: u 140 :: u 141 :: u 142 :: u 143 :: u 144 :: u 145 :: u 146 :: u 147 :: u 148 :: u 149 :: u 150 :: u 151 :: u 152 :: u 153 :: u 154 :: u 155 :: u 156 :: u 157 :: u 158 :: u 159 :: u 160 :: u 161 :: u 162 :: u 163 :: u 164 :: u 165 :: u 166 :: u 167 :: u 168 :: u 169 :: u 170 :: u 171 :: u 172 :: u 173 :: u 174 :: u 175 :: u 176 :: u 177 :: u 178 :: u 179 :: u 180 :: u 181 :: u 182 :: u 183 :: u 184 :: u 185 :: []), defers := [] } W' := fun W' f1 bw' bv' u =>
      hK _ _ (press_rest gh gk gt gw gv t n H K T s w W' u J bh bk bt lh lk lt hne hn ht f1 bw' bv' hgw hgv hJ)
    by_cases h16 : t < 16
    · exact press_lo gh gk gt gw gv t H T s w W u hs hs2 ht h16 f0 bw bv hgw hgv _ tail
    · exact press_hi gh gk gt gw gv t H T s w W u ht h16 f0 bw bv hgw hgv _ tail
end Go.Proofs.Ytioohhekamjljaa.Press
