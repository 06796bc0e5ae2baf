/- digest.press, a part. -/
import Derived.Test.YtioohhekamjljaaPressDefs
set_option linter.unusedSimpArgs false
set_option linter.unusedVariables false
namespace Go.Proofs.Ytioohhekamjljaa.Press
open Go Go.RowKit Go.Proofs.Ytioohhekamjljaa.Sha Go.Proofs.YtioohhekamjljaaW.PrintWords Go.Proofs.YtioohhekamjljaaW.PrintLast Go.Proofs.Ytioohhekamjljaa.PWireTells Go.Proofs.Ytioohhekamjljaa.Reg Go.Proofs.Ytioohhekamjljaa.Ev
set_option maxHeartbeats 4000000 in
set_option maxRecDepth 100000 in
theorem press_rest (gh gK gt gw gv t n : Nat) (H K T : List Int) (s : ByteArray) (w W' : World) (u : Nat → Value) (J : Act → World → Prop)
    (bh : Arr w gh 113 H) (bk : Arr w gK 113 K) (bt : Arr w gt 114 T)
    (lh : H.length = 8) (lk : K.length = 8) (lt : T.length = 64) (hne : gh ≠ gK)
    (hn : n + t = 64) (ht : t < 64) (f1 : Fr No w W') (bw' : Arr W' gw 114 (pad s (t + 1))) (bv' : Arr W' gv 113 (vs s H T t)) (hgw : w.heap.size ≤ gw) (hgv : w.heap.size ≤ gv)
    (hJ : ∀ (n' : Nat) (a' : Act) (w' : World), n' < n → (∃ (gw gv t : Nat) (u : Nat → Value), (n' + t = 64 ∧ AtLabel s H T w gw gv t w') ∧ a' = { tmps := List.toArray (.pointer (some ⟨gh, 0, none⟩) :: .pointer (some ⟨gK, 0, none⟩) :: .pointer (some ⟨gt, 0, none⟩) :: .string s :: undef :: undef :: undef :: undef :: .pointer (some ⟨gw, 0, none⟩) :: .pointer (some ⟨gv, 0, none⟩) :: .int .i64 (t : Int) :: undef :: u 12 :: u 13 :: u 14 :: u 15 :: u 16 :: u 17 :: u 18 :: u 19 :: u 20 :: u 21 :: u 22 :: u 23 :: u 24 :: u 25 :: u 26 :: u 27 :: u 28 :: u 29 :: u 30 :: u 31 :: u 32 :: u 33 :: u 34 :: u 35 :: u 36 :: u 37 :: u 38 :: u 39 :: u 40 :: u 41 :: u 42 :: u 43 :: u 44 :: u 45 :: u 46 :: u 47 :: u 48 :: u 49 :: u 50 :: u 51 :: u 52 :: u 53 :: u 54 :: u 55 :: u 56 :: u 57 :: u 58 :: u 59 :: u 60 :: u 61 :: u 62 :: u 63 :: u 64 :: u 65 :: u 66 :: u 67 :: u 68 :: u 69 :: u 70 :: u 71 :: u 72 :: u 73 :: u 74 :: u 75 :: u 76 :: u 77 :: u 78 :: u 79 :: u 80 :: u 81 :: u 82 :: u 83 :: u 84 :: u 85 :: u 86 :: u 87 :: u 88 :: u 89 :: u 90 :: u 91 :: u 92 :: u 93 :: u 94 :: u 95 :: u 96 :: u 97 :: u 98 :: u 99 :: u 100 :: u 101 :: u 102 :: u 103 :: u 104 :: u 105 :: u 106 :: u 107 :: u 108 :: u 109 :: u 110 :: u 111 :: u 112 :: u 113 :: u 114 :: u 115 :: u 116 :: u 117 :: u 118 :: u 119 :: u 120 :: u 121 :: u 122 :: u 123 :: u 124 :: u 125 :: u 126 :: u 127 :: u 128 :: u 129 :: u 130 :: u 131 :: u 132 :: u 133 :: u 134 :: u 135 :: u 136 :: u 137 :: u 138 :: u 139 :: u 140 :: u 141 :: u 142 :: u 143 :: u 144 :: u 145 :: u 146 :: u 147 :: u 148 :: u 149 :: u 150 :: u 151 :: u 152 :: u 153 :: u 154 :: u 155 :: u 156 :: u 157 :: u 158 :: u 159 :: u 160 :: u 161 :: u 162 :: u 163 :: u 164 :: u 165 :: u 166 :: u 167 :: u 168 :: u 169 :: u 170 :: u 171 :: u 172 :: u 173 :: u 174 :: u 175 :: u 176 :: u 177 :: u 178 :: u 179 :: u 180 :: u 181 :: u 182 :: u 183 :: u 184 :: u 185 :: []), defers := [] }) → J a' w') :
    Code.wp Try.prog (sub [0, 1, 1, 1, 1] body55) (Exit.jump 0 J (bodyPost Try.prog Try.f49 (Pressed gK w (comp s H T)))) { tmps := List.toArray (.pointer (some ⟨gh, 0, none⟩) :: .pointer (some ⟨gK, 0, none⟩) :: .pointer (some ⟨gt, 0, none⟩) :: .string s :: undef :: undef :: undef :: undef :: .pointer (some ⟨gw, 0, none⟩) :: .pointer (some ⟨gv, 0, none⟩) :: .int .i64 (t : Int) :: undef :: u 12 :: u 13 :: u 14 :: u 15 :: u 16 :: u 17 :: u 18 :: u 19 :: u 20 :: u 21 :: u 22 :: u 23 :: u 24 :: u 25 :: u 26 :: u 27 :: u 28 :: u 29 :: u 30 :: u 31 :: u 32 :: u 33 :: u 34 :: u 35 :: u 36 :: u 37 :: u 38 :: u 39 :: u 40 :: u 41 :: u 42 :: u 43 :: u 44 :: u 45 :: u 46 :: u 47 :: u 48 :: u 49 :: u 50 :: u 51 :: u 52 :: u 53 :: u 54 :: u 55 :: u 56 :: u 57 :: u 58 :: u 59 :: u 60 :: u 61 :: u 62 :: u 63 :: u 64 :: u 65 :: u 66 :: u 67 :: u 68 :: u 69 :: u 70 :: u 71 :: u 72 :: u 73 :: u 74 :: u 75 :: u 76 :: u 77 :: u 78 :: u 79 :: u 80 :: u 81 :: u 82 :: u 83 :: u 84 :: u 85 :: u 86 :: u 87 :: u 88 :: u 89 :: u 90 :: u 91 :: u 92 :: u 93 :: u 94 :: u 95 :: u 96 :: u 97 :: u 98 :: u 99 :: u 100 :: u 101 :: u 102 :: u 103 :: u 104 :: u 105 :: u 106 :: u 107 :: u 108 :: u 109 :: u 110 :: u 111 :: u 112 :: u 113 :: u 114 :: u 115 :: u 116 :: u 117 :: u 118 :: u 119 :: u 120 :: u 121 :: u 122 :: u 123 :: u 124 :: u 125 :: u 126 :: u 127 :: u 128 :: u 129 :: u 130 :: u 131 :: u 132 :: u 133 :: u 134 :: u 135 :: u 136 :: u 137 :: u 138 :: u 139 :: u 140 :: u 141 :: u 142 :: u 143 :: u 144 :: u 145 :: u 146 :: u 147 :: u 148 :: u 149 :: u 150 :: u 151 :: u 152 :: u 153 :: u 154 :: u 155 :: u 156 :: u 157 :: u 158 :: u 159 :: u 160 :: u 161 :: u 162 :: u 163 :: u 164 :: u 165 :: u 166 :: u 167 :: u 168 :: u 169 :: u 170 :: u 171 :: u 172 :: u 173 :: u 174 :: u 175 :: u 176 :: u 177 :: u 178 :: u 179 :: u 180 :: u 181 :: u 182 :: u 183 :: u 184 :: u 185 :: []), defers := [] } W' := by
  conv => arg 2; whnf
  have hwv := Blk.ne bw' bv' (by decide)
  obtain ⟨a0, a1, a2, a3, a4, a5, a6, a7, hV⟩ := len8 (vs_len s H T lh t)
  rw [hV] at bv'
  have c0 := bv'.at_ 0 (by simp)
  have c1 := bv'.at_ 1 (by simp)
  have c2 := bv'.at_ 2 (by simp)
  have c3 := bv'.at_ 3 (by simp)
  have c4 := bv'.at_ 4 (by simp)
  have c5 := bv'.at_ 5 (by simp)
  have c6 := bv'.at_ 6 (by simp)
  have c7 := bv'.at_ 7 (by simp)
  simp only [List.getD_cons_zero, List.getD_cons_succ] at c0 c1 c2 c3 c4 c5 c6 c7
  obtain ⟨kt, hkt⟩ : ∃ x, x = T.getD t 0 := ⟨_, rfl⟩
  have cw := bw'.at_ t (by rw [pad_len _ _ (by omega)]; omega)
  have ck := Arr.at_ (bt.no f1) t (by rw [lt]; omega)
  rw [pad_at _ _ ht] at cw
  rw [← hkt] at ck
  have hVn : vs s H T (t + 1) = [(xq a4 a5 a6 a7 kt (wt s t) + yq a0 a1 a2) % 4294967296, a0, a1, a2, (a3 + xq a4 a5 a6 a7 kt (wt s t)) % 4294967296, a4, a5, a6] := by
    rw [vs, hV, ← hkt]; rfl
  have H1 := Kp.mk hVn
  have H2 := Kp.mk hJ
  have H3 := Kp.mk hn
  have H4 := Kp.mk lh
  have H5 := Kp.mk lk
  have hsg : IntKind.u32.signed = false := rfl
  clear hV hVn hkt hn lh lk lt hJ
  go_wp2_with fail
  go_quiet (fail)
  go_wp2_with fail
  go_quiet (exact quiet2 (rot_any _ _ (by decide) (by decide)))
  go_wp2_with fail
  go_quiet (exact quiet2 (rot_any _ _ (by decide) (by decide)))
  go_wp2_with ((with_reducible refine gate_store (t := 113) (p := 9) rfl ?_); refine ev_store_row rfl 113 (.tmp 9) (.tmp 164) rfl gv (nums .u32 [(xq a4 a5 a6 a7 kt (wt s t) + yq a0 a1 a2) % 4294967296, a0, a1, a2, (a3 + xq a4 a5 a6 a7 kt (wt s t)) % 4294967296, a4, a5, a6]).toArray rfl ?_ 113 _ (Blk.drewN bv' _) size82 rfl (nums_one _) ?_)
  · simp [go_sem, nums, xq, yq, Int.add_assoc]
  intro w1 f2 bv2
  by_cases h64 : t + 1 < 64
  · go_wp2_with fail
    go_step3
    refine ⟨rfl, H2.out (n - 1) _ _ (by have := H3.out; omega) ⟨gw, gv, t + 1, ?_⟩⟩
    refine ex_u ⟨by have := H3.out; omega, h64, ((f1.drewN _).one f2 (.inr hgv)), Blk.one (Blk.drewN bw' _) f2 hwv, ?_, hgw, hgv⟩ rfl
    rw [H1.out]
    simpa [Arr, nums] using bv2
  · obtain rfl : t = 63 := by omega
    have F : Kp (Fr No w w1) := ⟨(f1.drewN _).one f2 (.inr hgv)⟩
    have bh1 : Kp (Arr w1 gh 113 H) := ⟨bh.no F.out⟩
    have bk1 : Kp (Arr w1 gK 113 K) := ⟨bk.no F.out⟩
    have bv1 : Kp (Arr w1 gv 113 (vs s H T 64)) := ⟨by rw [show (64 : Nat) = 63 + 1 from rfl, H1.out]; simpa [Arr, nums] using bv2⟩
    have hgKl := bk.lt
    have hlv : Kp ((vs s H T 64).length = 8) := ⟨vs_len s H T H4.out 64⟩
    clear c0 c1 c2 c3 c4 c5 c6 c7 cw ck bv2 bh bk bt f1 f2 bw' bv' H1 H2 H3 hwv
    rw [show ((63 : Nat) : Int) = 63 from rfl]
    go_wp2_with fail
    go_loopg [169] 8 (fun kq v wr => ∃ i : Nat, i + kq = 8 ∧ v = .int .i64 i ∧ Kp (Fr (One gK) w wr) ∧ Kp (Arr wr gK 113 (mix (comp s H T) K i)) ∧ Kp (Arr wr gh 113 H) ∧ Kp (Arr wr gv 113 (vs s H T 64)))
    case atStart => exact ⟨0, rfl, rfl, ⟨F.out.mono (fun i h => h.elim)⟩, ⟨by rw [mix_zero]; exact bk1.out⟩, bh1, bv1⟩
    case round =>
      clear F bh1 bk1 bv1
      obtain ⟨i, hi, rfl, f2, BK, BH, BV⟩ := hrel
      by_cases hi8 : i < 8
      · have ch := Arr.at_ BH.out i (by rw [H4.out]; omega)
        have cv := Arr.at_ BV.out i (by rw [hlv.out]; omega)
        have hC : Kp ((comp s H T).getD i 0 = (H.getD i 0 + (vs s H T 64).getD i 0) % 4294967296) := ⟨comp_get s H T i hi8⟩
        generalize H.getD i 0 = p at ch hC
        generalize (vs s H T 64).getD i 0 = q at cv hC
        have HI := Kp.mk hi
        clear hi
        go_wp2_with fail
        refine wp_region_drawn_tail 13 (by kernel_rfl) (by kernel_rfl) ?_
        simp only [List.take_succ_cons, List.take_zero, List.drop_succ_cons, List.drop_zero]
        repeat (go_big_quiet_step (fail))
        refine wpQuiet_nil ?_
        rintro _ ⟨m, rfl⟩
        refine ev_store rfl 66 (.tmp 184) (.tmp 182) rfl gK i (.int .u32 ((p + q) % 4294967296)) rfl rfl rfl 113 _ (Blk.drewN BK.out _) (by rw [nums_length, mix_len _ _ _ 8 (comp_len _ _ _) H5.out (by omega)]; omega) size81 ?_
        intro w2 f3 bk2
        go_wp2_with fail
        go_roundg (gk - 1)
        case measure => have := HI.out; omega
        case rel =>
          refine ⟨i + 1, by have := HI.out; omega, by go_num, ⟨(f2.out.drewN _).one f3 (.inl rfl)⟩, ⟨?_⟩, ⟨(Blk.drewN BH.out _).one f3 hne⟩, ⟨(Blk.drewN BV.out _).one f3 (fun h => by have h2 : gv = gK := h; omega)⟩⟩
          rw [← mix_set _ _ _ (by rw [comp_len]; omega) (by rw [H5.out]; omega), hC.out]
          simpa [Arr, nums, List.map_set] using bk2
      · obtain rfl : i = 8 := by omega
        go_wp2_with fail
        go_end0
        exact ⟨rfl, f2.out, by rw [mix_full _ _ 8 (comp_len _ _ _) H5.out] at BK; exact BK.out⟩
end Go.Proofs.Ytioohhekamjljaa.Press
