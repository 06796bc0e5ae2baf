/- The law ChunkCuts' own function: it returns true. No conditions but the input's sizes. -/
import Derived.Test.YtaohfmmapammcaaDoorChPuts
set_option linter.unusedSimpArgs false
set_option linter.unusedVariables false
namespace Go.Proofs.YtaohfmmapammcaaDoor.Ch
open Go Go.RowKit Go.Proofs.YtaohfmmapammcaaDoorW.PrintWords Go.Proofs.YtaohfmmapammcaaDoor.Reg Go.Proofs.YtaohfmmapammcaaDoor.Sha Go.Proofs.YtaohfmmapammcaaDoor.Dig Go.Proofs.YtaohfmmapammcaaDoor.Ev

noncomputable def bodyCuts : Code := Tryd.f7.body.getD .skip

set_option maxHeartbeats 8000000 in
set_option maxRecDepth 100000 in
theorem cuts_loop (s t g : List UInt8) (off m : Int) (hs : s.length ≤ 4096) (ht : t.length ≤ 4096) (hk : ∀ i, i < t.length → t[i]? = if i < s.length then s[i]? else some 0)
    (W : World) (u : Nat → Value) (Q : Exit → Act → World → Prop)
    (hQ : ∀ (u : Nat → Value) n, Q .normal { tmps := List.toArray (.string (bs s) :: .int .i64 (t.length : Int) :: .int .i64 off :: .int .i64 m :: u 4 :: u 5 :: u 6 :: u 7 :: u 8 :: .string (bs t) :: u 10 :: .string (bs g) :: u 12 :: u 13 :: u 14 :: u 15 :: u 16 :: u 17 :: u 18 :: u 19 :: u 20 :: u 21 :: u 22 :: u 23 :: u 24 :: u 25 :: u 26 :: u 27 :: u 28 :: u 29 :: u 30 :: u 31 :: u 32 :: u 33 :: u 34 :: u 35 :: u 36 :: u 37 :: u 38 :: u 39 :: u 40 :: u 41 :: u 42 :: u 43 :: u 44 :: u 45 :: u 46 :: u 47 :: u 48 :: u 49 :: u 50 :: u 51 :: u 52 :: u 53 :: u 54 :: u 55 :: u 56 :: u 57 :: u 58 :: u 59 :: u 60 :: u 61 :: u 62 :: u 63 :: u 64 :: u 65 :: u 66 :: u 67 :: u 68 :: u 69 :: u 70 :: u 71 :: u 72 :: u 73 :: u 74 :: u 75 :: u 76 :: u 77 :: u 78 :: u 79 :: u 80 :: u 81 :: u 82 :: u 83 :: u 84 :: u 85 :: u 86 :: u 87 :: u 88 :: u 89 :: u 90 :: u 91 :: u 92 :: u 93 :: u 94 :: u 95 :: u 96 :: u 97 :: u 98 :: u 99 :: u 100 :: u 101 :: u 102 :: u 103 :: u 104 :: u 105 :: u 106 :: u 107 :: u 108 :: u 109 :: u 110 :: u 111 :: u 112 :: u 113 :: u 114 :: u 115 :: u 116 :: u 117 :: u 118 :: u 119 :: u 120 :: u 121 :: u 122 :: u 123 :: u 124 :: u 125 :: u 126 :: u 127 :: u 128 :: u 129 :: u 130 :: u 131 :: u 132 :: u 133 :: []), defers := [] } (W.drewN n)) :
    Code.wp Tryd.prog (sub [1,1,1,1,1,1,1,0,1] bodyCuts) Q { tmps := List.toArray (.string (bs s) :: .int .i64 (t.length : Int) :: .int .i64 off :: .int .i64 m :: u 4 :: u 5 :: u 6 :: u 7 :: u 8 :: .string (bs t) :: u 10 :: .string (bs g) :: u 12 :: u 13 :: u 14 :: .int .i64 0 :: u 16 :: u 17 :: u 18 :: u 19 :: u 20 :: u 21 :: u 22 :: u 23 :: u 24 :: u 25 :: u 26 :: u 27 :: u 28 :: u 29 :: u 30 :: u 31 :: u 32 :: u 33 :: u 34 :: u 35 :: u 36 :: u 37 :: u 38 :: u 39 :: u 40 :: u 41 :: u 42 :: u 43 :: u 44 :: u 45 :: u 46 :: u 47 :: u 48 :: u 49 :: u 50 :: u 51 :: u 52 :: u 53 :: u 54 :: u 55 :: u 56 :: u 57 :: u 58 :: u 59 :: u 60 :: u 61 :: u 62 :: u 63 :: u 64 :: u 65 :: u 66 :: u 67 :: u 68 :: u 69 :: u 70 :: u 71 :: u 72 :: u 73 :: u 74 :: u 75 :: u 76 :: u 77 :: u 78 :: u 79 :: u 80 :: u 81 :: u 82 :: u 83 :: u 84 :: u 85 :: u 86 :: u 87 :: u 88 :: u 89 :: u 90 :: u 91 :: u 92 :: u 93 :: u 94 :: u 95 :: u 96 :: u 97 :: u 98 :: u 99 :: u 100 :: u 101 :: u 102 :: u 103 :: u 104 :: u 105 :: u 106 :: u 107 :: u 108 :: u 109 :: u 110 :: u 111 :: u 112 :: u 113 :: u 114 :: u 115 :: u 116 :: u 117 :: u 118 :: u 119 :: u 120 :: u 121 :: u 122 :: u 123 :: u 124 :: u 125 :: u 126 :: u 127 :: u 128 :: u 129 :: u 130 :: u 131 :: u 132 :: u 133 :: []), defers := [] } W := by
  conv => arg 2; whnf
  have HQ := Kp.mk hQ
  have HK0 := Kp.mk hk
  clear hQ hk
  refine wp_block ?_
  refine wp_loop_ghost_k (fun n a' w' => ∃ (i q : Nat) (u : Nat → Value), (n + i = t.length ∧ w' = W.drewN q) ∧ a' = { tmps := List.toArray (.string (bs s) :: .int .i64 (t.length : Int) :: .int .i64 off :: .int .i64 m :: u 4 :: u 5 :: u 6 :: u 7 :: u 8 :: .string (bs t) :: u 10 :: .string (bs g) :: u 12 :: u 13 :: u 14 :: .int .i64 (i : Int) :: u 16 :: u 17 :: u 18 :: u 19 :: u 20 :: u 21 :: u 22 :: u 23 :: u 24 :: u 25 :: u 26 :: u 27 :: u 28 :: u 29 :: u 30 :: u 31 :: u 32 :: u 33 :: u 34 :: u 35 :: u 36 :: u 37 :: u 38 :: u 39 :: u 40 :: u 41 :: u 42 :: u 43 :: u 44 :: u 45 :: u 46 :: u 47 :: u 48 :: u 49 :: u 50 :: u 51 :: u 52 :: u 53 :: u 54 :: u 55 :: u 56 :: u 57 :: u 58 :: u 59 :: u 60 :: u 61 :: u 62 :: u 63 :: u 64 :: u 65 :: u 66 :: u 67 :: u 68 :: u 69 :: u 70 :: u 71 :: u 72 :: u 73 :: u 74 :: u 75 :: u 76 :: u 77 :: u 78 :: u 79 :: u 80 :: u 81 :: u 82 :: u 83 :: u 84 :: u 85 :: u 86 :: u 87 :: u 88 :: u 89 :: u 90 :: u 91 :: u 92 :: u 93 :: u 94 :: u 95 :: u 96 :: u 97 :: u 98 :: u 99 :: u 100 :: u 101 :: u 102 :: u 103 :: u 104 :: u 105 :: u 106 :: u 107 :: u 108 :: u 109 :: u 110 :: u 111 :: u 112 :: u 113 :: u 114 :: u 115 :: u 116 :: u 117 :: u 118 :: u 119 :: u 120 :: u 121 :: u 122 :: u 123 :: u 124 :: u 125 :: u 126 :: u 127 :: u 128 :: u 129 :: u 130 :: u 131 :: u 132 :: u 133 :: []), defers := [] }) t.length
    ⟨0, 0, u, ⟨by omega, rfl⟩, rfl⟩ ?_
  rintro n a' w' ⟨i, q, u, ⟨hn, rfl⟩, rfl⟩ J K hJ hK
  have HJ := Kp.mk hJ
  have HK := Kp.mk hK
  have HN := Kp.mk hn
  clear hJ hK hn
  have hst : (bs t).size = t.length := bs_size t
  have hss : (bs s).size = s.length := bs_size s
  by_cases hlt : i < t.length
  · have hltz : (i : Int) < (t.length : Int) := by omega
    have hki := HK0.out i hlt
    by_cases hsl : i < s.length
    · rw [if_pos hsl] at hki
      obtain ⟨x, hx⟩ : ∃ x, s[i]? = some x := ⟨_, List.getElem?_eq_getElem hsl⟩
      have i1 := idx_any s i x hx
      have i2 := idx_any t i x (hki.trans hx)
      have hslz : (i : Int) < (s.length : Int) := by omega
      have hslb : decide (s.length ≤ i) = false := by simpa using hsl
      clear hki hx HK0
      go_wp2_with fail
      go_quiet (fail)
      rename_i nq
      go_wp2_with fail
      refine HK.out _ _ (Handed.intro (n - 1) (by have := HN.out; omega) (HJ.out _ _ _ ⟨i + 1, q + nq, ex_u ⟨by have := HN.out; omega, rfl⟩ rfl⟩))
    · rw [if_neg hsl] at hki
      have i2 := idx_any t i 0 hki
      have hslz : (s.length : Int) ≤ (i : Int) := by omega
      have hslb : decide (i < s.length) = false := by simpa using hsl
      clear hki HK0
      go_wp2_with fail
      go_quiet (fail)
      rename_i nq
      go_wp2_with fail
      refine HK.out _ _ (Handed.intro (n - 1) (by have := HN.out; omega) (HJ.out _ _ _ ⟨i + 1, q + nq, ex_u ⟨by have := HN.out; omega, rfl⟩ rfl⟩))
  · obtain rfl : i = t.length := by have := HN.out; omega
    have hltz : ¬ (t.length : Int) < (t.length : Int) := by omega
    clear HK0
    go_wp2_with fail
    exact K_u (fun u => HQ.out u q) rfl

set_option maxHeartbeats 8000000 in
set_option maxRecDepth 100000 in
theorem cuts_any (s : List UInt8) (size off m : Int) (hs : s.length ≤ 1099511627776000) (ho1 : off ≤ 9223372036854775807) (hm1 : m ≤ 9223372036854775807) (w : World) :
    Calls Tryd.prog 7 #[.string (bs s), .int .i64 size, .int .i64 off, .int .i64 m] w fun e w' => e = .returned (.bool true) ∧ Fr No w w' := by
  have hss : (bs s).size = s.length := bs_size s
  have CA : Kp (∀ W, Calls Tryd.prog 8 #[] W fun e w' => e = .returned (.bool true) ∧ Fr No W w') := ⟨awake_any⟩
  have HM1 := Kp.mk hm1
  have HO1 := Kp.mk ho1
  clear hm1 ho1
  by_cases c1 : s.length ≤ 4096
  · have c1z : (s.length : Int) ≤ 4096 := by omega
    by_cases c2 : size < 0
    · go_enter Tryd.func7, Tryd.ntmps7
      go_wp2_with (go_at_call 8; refine (CA.out _).mono ?_; rintro e w1 ⟨rfl, f1⟩)
      go_ret
      exact ⟨rfl, f1⟩
    have c2z : 0 ≤ size := by omega
    by_cases c3 : 4096 < size
    · clear c2
      go_enter Tryd.func7, Tryd.ntmps7
      go_wp2_with (go_at_call 8; refine (CA.out _).mono ?_; rintro e w1 ⟨rfl, f1⟩)
      go_ret
      exact ⟨rfl, f1⟩
    have c3z : size ≤ 4096 := by omega
    by_cases c4 : off < 0
    · clear c2 c3
      go_enter Tryd.func7, Tryd.ntmps7
      go_wp2_with (go_at_call 8; refine (CA.out _).mono ?_; rintro e w1 ⟨rfl, f1⟩)
      go_ret
      exact ⟨rfl, f1⟩
    have c4z : 0 ≤ off := by omega
    by_cases c5 : m < 0
    · clear c2 c3 c4
      go_enter Tryd.func7, Tryd.ntmps7
      go_wp2_with (go_at_call 8; refine (CA.out _).mono ?_; rintro e w1 ⟨rfl, f1⟩)
      go_ret
      exact ⟨rfl, f1⟩
    have c5z : 0 ≤ m := by omega
    clear c2 c3 c4 c5
    obtain ⟨t2, tl, tk⟩ := trunc_ok (s := s) c2z c3z
    have CT : Kp (∀ W, Calls Tryd.prog 11 #[.string (bs s), .int .i64 size] W fun e w' => e = .returned (.tuple #[.string (bs (truncL s size).1), .int .i64 0]) ∧ Fr No W w') := ⟨fun W => by
      have h := trunc_any s size (by omega) W
      rw [t2] at h
      exact h⟩
    generalize (truncL s size).1 = t at CT tl tk
    obtain rfl : size = (t.length : Int) := by omega
    have TK : Kp (∀ i, i < t.length → t[i]? = if i < s.length then s[i]? else some 0) := ⟨fun i hi => tk i (by omega)⟩
    have htl : t.length ≤ 4096 := by omega
    have hst : (bs t).size = t.length := bs_size t
    have hgv : getL s off m = ((s.drop off.toNat).take m.toNat, 0) := by unfold getL; rw [if_neg (by omega), if_neg (by omega)]
    have CG : Kp (∀ W, Calls Tryd.prog 13 #[.string (bs s), .int .i64 off, .int .i64 m] W fun e w' => e = .returned (.tuple #[.string (bs ((s.drop off.toNat).take m.toNat)), .int .i64 0]) ∧ Fr No W w') := ⟨fun W => by
      have h := get_any s off m (by omega) HO1.out HM1.out W
      rw [hgv] at h
      exact h⟩
    have CC : Kp (∀ W, Calls Tryd.prog 15 #[.string ⟨#[]⟩, .int .i64 0, .string (bs s), .int .i64 0, .int .i64 (s.length : Int)] W fun e w' => e = .returned (.tuple #[.string (bs s), .int .i64 0]) ∧ Fr No W w') := ⟨fun W => by
      have h := copy_chunk_any [] 0 s 0 (s.length : Int) (by decide) (by omega) (by decide) (by omega) W
      rw [copy_self c1] at h
      exact h⟩
    by_cases c6 : (s.length : Int) ≤ off
    · have hd : s.drop off.toNat = [] := List.drop_of_length_le (by omega)
      rw [hd, List.take_nil] at CG
      clear t2 tl tk hgv hd c2z
      go_enter Tryd.func7, Tryd.ntmps7
      go_upto_block 0 with (first
        | (go_at_call 8; refine (CA.out _).mono ?_; rintro e w1 ⟨rfl, f1⟩)
        | (go_at_call 11; refine (CT.out _).mono ?_; rintro e w2 ⟨rfl, f2⟩)
        | (go_at_call 13; refine (CG.out _).mono ?_; rintro e w3 ⟨rfl, f3⟩)
        | (go_at_call 15; refine (CC.out _).mono ?_; rintro e w4 ⟨rfl, f4⟩))
      refine wp_u (fun u => cuts_loop s t [] off m c1 htl TK.out w4 u _ ?_) rfl
      intro u n
      go_wp2_with fail
      go_ret
      exact ⟨rfl, (((f1.no f2).no f3).no f4).drewN n⟩
    · obtain ⟨o, rfl⟩ := Int.eq_ofNat_of_zero_le c4z
      have hto : (Int.toNat (o : Int)) = o := rfl
      rw [hto] at CG
      have hgl : min m ((s.length : Int) - (o : Int)) = (((s.drop o).take m.toNat).length : Int) := by
        rw [List.length_take, List.length_drop]; omega
      have hex : (bs s).extract o (o + ((s.drop o).take m.toNat).length) = bs ((s.drop o).take m.toNat) := by
        rw [ext_bs, Nat.add_sub_cancel_left]
        congr 1
        rw [List.length_take, List.length_drop]
        rcases Nat.le_total m.toNat (s.length - o) with h | h
        · rw [Nat.min_eq_left h]
        · rw [Nat.min_eq_right h, List.take_of_length_le (by rw [List.length_drop]; exact Nat.le_refl _), List.take_of_length_le (by rw [List.length_drop]; exact h)]
      have hgo : o + ((s.drop o).take m.toNat).length ≤ s.length := by rw [List.length_take, List.length_drop]; omega
      generalize (s.drop o).take m.toNat = g at CG hgl hex hgo
      have c6z : (o : Int) < (s.length : Int) := by omega
      have q1 : (o : Int) ≤ (o : Int) + (g.length : Int) := by omega
      have q2 : (o : Int) + (g.length : Int) ≤ (s.length : Int) := by omega
      have q3 : (0 : Int) ≤ (o : Int) + (g.length : Int) := by omega
      have hsg : (bs g).size = g.length := bs_size g
      have HGL := Kp.mk hgl
      have HEX := Kp.mk hex
      clear t2 tl tk hgv c2z c6 hto hgl hex
      go_enter Tryd.func7, Tryd.ntmps7
      go_upto_block 0 with (first
        | (go_at_call 8; refine (CA.out _).mono ?_; rintro e w1 ⟨rfl, f1⟩)
        | (go_at_call 11; refine (CT.out _).mono ?_; rintro e w2 ⟨rfl, f2⟩)
        | (go_at_call 13; refine (CG.out _).mono ?_; rintro e w3 ⟨rfl, f3⟩)
        | (go_at_call 15; refine (CC.out _).mono ?_; rintro e w4 ⟨rfl, f4⟩))
      refine wp_u (fun u => cuts_loop s t g (o : Int) m c1 htl TK.out w4 u _ ?_) rfl
      intro u n
      have hgl := HGL.out
      have hex := HEX.out
      go_wp2_with fail
      go_ret
      exact ⟨rfl, (((f1.no f2).no f3).no f4).drewN n⟩
  · have c1z : (4096 : Int) < (s.length : Int) := by omega
    clear c1
    go_enter Tryd.func7, Tryd.ntmps7
    go_wp2_with (go_at_call 8; refine (CA.out _).mono ?_; rintro e w1 ⟨rfl, f1⟩)
    go_ret
    exact ⟨rfl, f1⟩
end Go.Proofs.YtaohfmmapammcaaDoor.Ch
