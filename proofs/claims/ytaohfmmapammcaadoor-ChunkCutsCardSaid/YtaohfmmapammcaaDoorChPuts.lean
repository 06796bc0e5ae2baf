/- The law ChunkPuts' own function: it returns true. No conditions but the input's sizes. -/
import Derived.Test.YtaohfmmapammcaaDoorChAwake
set_option linter.unusedSimpArgs false
set_option linter.unusedVariables false
namespace Go.Proofs.YtaohfmmapammcaaDoor.Ch
open Go Go.RowKit Go.Proofs.YtaohfmmapammcaaDoorW.PrintWords Go.Proofs.YtaohfmmapammcaaDoor.Reg Go.Proofs.YtaohfmmapammcaaDoor.Sha Go.Proofs.YtaohfmmapammcaaDoor.Dig Go.Proofs.YtaohfmmapammcaaDoor.Ev

noncomputable def bodyPuts : Code := Tryd.f6.body.getD .skip

theorem idx_any (t : List UInt8) (i : Nat) (x : UInt8) (h : t[i]? = some x) : ∀ W : World, (Instr.index 9 (.string (bs t)) (.int .i64 (i : Int))).run Tryd.prog W = .ok (.int .u8 (x.toNat : Int)) W := by
  intro W
  obtain ⟨hl, hx⟩ := List.getElem?_eq_some_iff.1 h
  have h1 : (bs t)[i]? = some x := by
    have e : i < (bs t).size := by rw [bs_size]; exact hl
    rw [getElem?_pos (bs t) i e]
    rw [← hx]
    have e3 : (bs t).data.toList[i]'(by simpa [bs] using hl) = (bs t)[i]'e := by rw [Array.getElem_toList]; rfl
    rw [← e3]
  simp [Instr.index, asIntOf, run_underlying Tryd.underlying9, h1, Sem.run_bind, Result.andThen, Sem.run_pure]

set_option maxHeartbeats 8000000 in
set_option maxRecDepth 100000 in
theorem puts_loop (s d t : List UInt8) (o : Nat) (ho : o ≤ 4096) (hs : s.length ≤ 4096) (hd : d.length ≤ 4096) (ht : t.length ≤ 1099511627776) (hk : ∀ i, i < t.length → (i < o ∨ o + d.length ≤ i) → t[i]? = if i < s.length then s[i]? else some 0)
    (W : World) (u : Nat → Value) (Q : Exit → Act → World → Prop)
    (hQ : ∀ (u : Nat → Value) n, Q .normal { tmps := List.toArray (.string (bs s) :: .int .i64 (o : Int) :: .string (bs d) :: u 3 :: u 4 :: u 5 :: u 6 :: .string (bs t) :: u 8 :: u 9 :: u 10 :: u 11 :: u 12 :: u 13 :: u 14 :: u 15 :: u 16 :: u 17 :: u 18 :: u 19 :: u 20 :: u 21 :: u 22 :: u 23 :: u 24 :: u 25 :: u 26 :: u 27 :: u 28 :: u 29 :: u 30 :: u 31 :: u 32 :: u 33 :: u 34 :: u 35 :: u 36 :: u 37 :: u 38 :: u 39 :: u 40 :: u 41 :: u 42 :: u 43 :: u 44 :: u 45 :: u 46 :: u 47 :: u 48 :: u 49 :: u 50 :: u 51 :: u 52 :: u 53 :: u 54 :: u 55 :: u 56 :: u 57 :: u 58 :: u 59 :: u 60 :: u 61 :: u 62 :: u 63 :: u 64 :: u 65 :: u 66 :: u 67 :: u 68 :: u 69 :: u 70 :: u 71 :: u 72 :: u 73 :: u 74 :: u 75 :: u 76 :: u 77 :: u 78 :: u 79 :: u 80 :: u 81 :: u 82 :: u 83 :: u 84 :: u 85 :: u 86 :: u 87 :: u 88 :: u 89 :: u 90 :: u 91 :: u 92 :: u 93 :: u 94 :: u 95 :: u 96 :: u 97 :: u 98 :: u 99 :: u 100 :: u 101 :: u 102 :: u 103 :: u 104 :: u 105 :: u 106 :: u 107 :: u 108 :: u 109 :: u 110 :: u 111 :: u 112 :: u 113 :: u 114 :: u 115 :: u 116 :: u 117 :: u 118 :: u 119 :: u 120 :: u 121 :: u 122 :: u 123 :: u 124 :: u 125 :: u 126 :: u 127 :: u 128 :: u 129 :: u 130 :: u 131 :: u 132 :: u 133 :: u 134 :: u 135 :: u 136 :: u 137 :: u 138 :: u 139 :: u 140 :: u 141 :: u 142 :: u 143 :: []), defers := [] } (W.drewN n)) :
    Code.wp Tryd.prog (sub [1,1,1,1,1,1,1,1,0,1] bodyPuts) Q { tmps := List.toArray (.string (bs s) :: .int .i64 (o : Int) :: .string (bs d) :: u 3 :: u 4 :: u 5 :: u 6 :: .string (bs t) :: u 8 :: u 9 :: u 10 :: u 11 :: u 12 :: .int .i64 0 :: u 14 :: u 15 :: u 16 :: u 17 :: u 18 :: u 19 :: u 20 :: u 21 :: u 22 :: u 23 :: u 24 :: u 25 :: u 26 :: u 27 :: u 28 :: u 29 :: u 30 :: u 31 :: u 32 :: u 33 :: u 34 :: u 35 :: u 36 :: u 37 :: u 38 :: u 39 :: u 40 :: u 41 :: u 42 :: u 43 :: u 44 :: u 45 :: u 46 :: u 47 :: u 48 :: u 49 :: u 50 :: u 51 :: u 52 :: u 53 :: u 54 :: u 55 :: u 56 :: u 57 :: u 58 :: u 59 :: u 60 :: u 61 :: u 62 :: u 63 :: u 64 :: u 65 :: u 66 :: u 67 :: u 68 :: u 69 :: u 70 :: u 71 :: u 72 :: u 73 :: u 74 :: u 75 :: u 76 :: u 77 :: u 78 :: u 79 :: u 80 :: u 81 :: u 82 :: u 83 :: u 84 :: u 85 :: u 86 :: u 87 :: u 88 :: u 89 :: u 90 :: u 91 :: u 92 :: u 93 :: u 94 :: u 95 :: u 96 :: u 97 :: u 98 :: u 99 :: u 100 :: u 101 :: u 102 :: u 103 :: u 104 :: u 105 :: u 106 :: u 107 :: u 108 :: u 109 :: u 110 :: u 111 :: u 112 :: u 113 :: u 114 :: u 115 :: u 116 :: u 117 :: u 118 :: u 119 :: u 120 :: u 121 :: u 122 :: u 123 :: u 124 :: u 125 :: u 126 :: u 127 :: u 128 :: u 129 :: u 130 :: u 131 :: u 132 :: u 133 :: u 134 :: u 135 :: u 136 :: u 137 :: u 138 :: u 139 :: u 140 :: u 141 :: u 142 :: u 143 :: []), defers := [] } W := by
  conv => arg 2; whnf
  have HQ := Kp.mk hQ
  have HK0 := Kp.mk hk
  clear hQ hk
  refine wp_block ?_
  refine wp_loop_ghost_k (fun n a' w' => ∃ (i q : Nat) (u : Nat → Value), (n + i = t.length ∧ w' = W.drewN q) ∧ a' = { tmps := List.toArray (.string (bs s) :: .int .i64 (o : Int) :: .string (bs d) :: u 3 :: u 4 :: u 5 :: u 6 :: .string (bs t) :: u 8 :: u 9 :: u 10 :: u 11 :: u 12 :: .int .i64 (i : Int) :: u 14 :: u 15 :: u 16 :: u 17 :: u 18 :: u 19 :: u 20 :: u 21 :: u 22 :: u 23 :: u 24 :: u 25 :: u 26 :: u 27 :: u 28 :: u 29 :: u 30 :: u 31 :: u 32 :: u 33 :: u 34 :: u 35 :: u 36 :: u 37 :: u 38 :: u 39 :: u 40 :: u 41 :: u 42 :: u 43 :: u 44 :: u 45 :: u 46 :: u 47 :: u 48 :: u 49 :: u 50 :: u 51 :: u 52 :: u 53 :: u 54 :: u 55 :: u 56 :: u 57 :: u 58 :: u 59 :: u 60 :: u 61 :: u 62 :: u 63 :: u 64 :: u 65 :: u 66 :: u 67 :: u 68 :: u 69 :: u 70 :: u 71 :: u 72 :: u 73 :: u 74 :: u 75 :: u 76 :: u 77 :: u 78 :: u 79 :: u 80 :: u 81 :: u 82 :: u 83 :: u 84 :: u 85 :: u 86 :: u 87 :: u 88 :: u 89 :: u 90 :: u 91 :: u 92 :: u 93 :: u 94 :: u 95 :: u 96 :: u 97 :: u 98 :: u 99 :: u 100 :: u 101 :: u 102 :: u 103 :: u 104 :: u 105 :: u 106 :: u 107 :: u 108 :: u 109 :: u 110 :: u 111 :: u 112 :: u 113 :: u 114 :: u 115 :: u 116 :: u 117 :: u 118 :: u 119 :: u 120 :: u 121 :: u 122 :: u 123 :: u 124 :: u 125 :: u 126 :: u 127 :: u 128 :: u 129 :: u 130 :: u 131 :: u 132 :: u 133 :: u 134 :: u 135 :: u 136 :: u 137 :: u 138 :: u 139 :: u 140 :: u 141 :: u 142 :: u 143 :: []), defers := [] }) t.length
    ⟨0, 0, u, ⟨by omega, rfl⟩, rfl⟩ ?_
  rintro n a' w' ⟨i, q, u, ⟨hn, rfl⟩, rfl⟩ J K hJ hK
  have HJ := Kp.mk hJ
  have HK := Kp.mk hK
  have HN := Kp.mk hn
  clear hJ hK hn
  have hst : (bs t).size = t.length := bs_size t
  have hss : (bs s).size = s.length := bs_size s
  have hsd : (bs d).size = d.length := bs_size d
  by_cases hlt : i < t.length
  · have hltz : (i : Int) < (t.length : Int) := by omega
    by_cases hin : o ≤ i ∧ i < o + d.length
    · have h1 : (o : Int) ≤ (i : Int) := by omega
      have h2 : (i : Int) < (o : Int) + (d.length : Int) := by omega
      clear hin
      go_wp2_with fail
      refine HK.out _ _ (Handed.intro (n - 1) (by have := HN.out; omega) (HJ.out _ _ _ ⟨i + 1, q, ex_u ⟨by have := HN.out; omega, rfl⟩ rfl⟩))
    · have hout : i < o ∨ o + d.length ≤ i := by omega
      have hki := HK0.out i hlt hout
      by_cases hsl : i < s.length
      · rw [if_pos hsl] at hki
        obtain ⟨x, hx⟩ : ∃ x, s[i]? = some x := ⟨_, List.getElem?_eq_getElem hsl⟩
        have i1 := idx_any s i x hx
        have i2 := idx_any t i x (hki.trans hx)
        have hslz : (i : Int) < (s.length : Int) := by omega
        have hslb : decide (s.length ≤ i) = false := by simpa using hsl
        clear hki hx hin HK0
        by_cases h1 : i < o
        · have h1z : (i : Int) < (o : Int) := by omega
          clear hout
          go_wp2_with fail
          go_quiet (fail)
          rename_i nq
          go_wp2_with fail
          refine HK.out _ _ (Handed.intro (n - 1) (by have := HN.out; omega) (HJ.out _ _ _ ⟨i + 1, q + nq, ex_u ⟨by have := HN.out; omega, rfl⟩ rfl⟩))
        · have h1z : (o : Int) ≤ (i : Int) := by omega
          have h2z : ¬ (i : Int) < (o : Int) + (d.length : Int) := by omega
          have h3z : (o : Int) + (d.length : Int) ≤ (i : Int) := by omega
          clear hout
          go_wp2_with fail
          go_quiet (fail)
          rename_i nq
          go_wp2_with fail
          refine HK.out _ _ (Handed.intro (n - 1) (by have := HN.out; omega) (HJ.out _ _ _ ⟨i + 1, q + nq, ex_u ⟨by have := HN.out; omega, rfl⟩ rfl⟩))
      · rw [if_neg hsl] at hki
        have i2 := idx_any t i 0 hki
        have hslz : (s.length : Int) ≤ (i : Int) := by omega
        have hslb : decide (i < s.length) = false := by simpa using hsl
        clear hki hin HK0
        by_cases h1 : i < o
        · have h1z : (i : Int) < (o : Int) := by omega
          clear hout
          go_wp2_with fail
          go_quiet (fail)
          rename_i nq
          go_wp2_with fail
          refine HK.out _ _ (Handed.intro (n - 1) (by have := HN.out; omega) (HJ.out _ _ _ ⟨i + 1, q + nq, ex_u ⟨by have := HN.out; omega, rfl⟩ rfl⟩))
        · have h1z : (o : Int) ≤ (i : Int) := by omega
          have h2z : ¬ (i : Int) < (o : Int) + (d.length : Int) := by omega
          have h3z : (o : Int) + (d.length : Int) ≤ (i : Int) := by omega
          clear hout
          go_wp2_with fail
          go_quiet (fail)
          rename_i nq
          go_wp2_with fail
          refine HK.out _ _ (Handed.intro (n - 1) (by have := HN.out; omega) (HJ.out _ _ _ ⟨i + 1, q + nq, ex_u ⟨by have := HN.out; omega, rfl⟩ rfl⟩))
  · obtain rfl : i = t.length := by have := HN.out; omega
    have hltz : ¬ (t.length : Int) < (t.length : Int) := by omega
    clear HK0
    go_wp2_with fail
    exact K_u (fun u => HQ.out u q) rfl

set_option maxHeartbeats 8000000 in
set_option maxRecDepth 100000 in
theorem puts_any (s : List UInt8) (off : Int) (d : List UInt8) (hs : s.length ≤ 1099511627776000) (hd : d.length ≤ 1099511627776000) (w : World) :
    Calls Tryd.prog 6 #[.string (bs s), .int .i64 off, .string (bs d)] w fun e w' => e = .returned (.bool true) ∧ Fr No w w' := by
  have hss : (bs s).size = s.length := bs_size s
  have hsd : (bs d).size = d.length := bs_size d
  have CA : Kp (∀ W, Calls Tryd.prog 8 #[] W fun e w' => e = .returned (.bool true) ∧ Fr No W w') := ⟨awake_any⟩
  by_cases c1 : s.length ≤ 4096
  · have c1z : (s.length : Int) ≤ 4096 := by omega
    by_cases c2 : d.length ≤ 4096
    · have c2z : (d.length : Int) ≤ 4096 := by omega
      have CP : Kp (∀ W, Calls Tryd.prog 9 #[.string (bs s), .int .i64 off, .string (bs d)] W fun e w' => e = .returned (.tuple #[.string (bs (putL s off d).1), .int .i64 (putL s off d).2]) ∧ Fr No W w') := ⟨put_any s off d (by omega) (by omega)⟩
      by_cases he : (putL s off d).2 = 0
      · obtain ⟨h0, h1, hok⟩ := putL_ok he
        have hg := put_get he
        rw [he] at CP
        obtain ⟨o, rfl⟩ := Int.eq_ofNat_of_zero_le h0
        have hto : (Int.toNat (o : Int)) = o := rfl
        rw [hto] at hok
        obtain ⟨t, ht⟩ : ∃ t, t = (putL s (o : Int) d).1 := ⟨_, rfl⟩
        rw [← ht] at CP hok hg
        have ho4 : o ≤ 4096 := by omega
        have htl : t.length ≤ 4096 := by
          have := hok.len
          by_cases hdn : d = []
          · rw [if_pos hdn] at this; omega
          · rw [if_neg hdn] at this; omega
        have CG : Kp (∀ W, Calls Tryd.prog 13 #[.string (bs t), .int .i64 (o : Int), .int .i64 (d.length : Int)] W fun e w' => e = .returned (.tuple #[.string (bs d), .int .i64 0]) ∧ Fr No W w') := ⟨fun W => by
          have h := get_any t (o : Int) (d.length : Int) (by omega) (by omega) (by omega) W
          rw [hg] at h
          exact h⟩
        have CT : Kp (∀ W, Calls Tryd.prog 11 #[.string (bs t), .int .i64 (t.length : Int)] W fun e w' => e = .returned (.tuple #[.string (bs t), .int .i64 0]) ∧ Fr No W w') := ⟨fun W => by
          have h := trunc_any t (t.length : Int) (by omega) W
          rw [trunc_self htl] at h
          exact h⟩
        have HOUT := Kp.mk hok.out
        have hst : (bs t).size = t.length := bs_size t
        by_cases hdn : d = []
        · have htt := hok.nil hdn
          subst hdn
          subst htt
          clear he hg ht h0 h1 hok hto
          go_enter Tryd.func6, Tryd.ntmps6
          go_upto_block 0 with (first
            | (go_at_call 8; refine (CA.out _).mono ?_; rintro e w1 ⟨rfl, f1⟩)
            | (go_at_call 9; refine (CP.out _).mono ?_; rintro e w2 ⟨rfl, f2⟩)
            | (go_at_call 13; refine (CG.out _).mono ?_; rintro e w3 ⟨rfl, f3⟩)
            | (go_at_call 11; refine (CT.out _).mono ?_; rintro e w4 ⟨rfl, f4⟩))
          refine wp_u (fun u => puts_loop t [] t o ho4 htl (by decide) (by omega) HOUT.out w4 u _ ?_) rfl
          intro u n
          go_wp2_with fail
          go_ret
          exact ⟨rfl, (((f1.no f2).no f3).no f4).drewN n⟩
        · have hdi : d.isEmpty = false := by cases d with | nil => exact absurd rfl hdn | cons _ _ => rfl
          have hlen := hok.len
          rw [if_neg hdn] at hlen
          have hmx : max (s.length : Int) ((o : Int) + (d.length : Int)) = (t.length : Int) := by omega
          clear he hg ht h0 h1 hok hto hlen
          go_enter Tryd.func6, Tryd.ntmps6
          go_upto_block 0 with (first
            | (go_at_call 8; refine (CA.out _).mono ?_; rintro e w1 ⟨rfl, f1⟩)
            | (go_at_call 9; refine (CP.out _).mono ?_; rintro e w2 ⟨rfl, f2⟩)
            | (go_at_call 13; refine (CG.out _).mono ?_; rintro e w3 ⟨rfl, f3⟩)
            | (go_at_call 11; refine (CT.out _).mono ?_; rintro e w4 ⟨rfl, f4⟩))
          refine wp_u (fun u => puts_loop s d t o ho4 c1 c2 (by omega) HOUT.out w4 u _ ?_) rfl
          intro u n
          go_wp2_with fail
          go_ret
          exact ⟨rfl, (((f1.no f2).no f3).no f4).drewN n⟩
      · obtain ⟨hn, hor⟩ := putL_bad he
        rw [hn] at CP
        have heb : ((putL s off d).2 != 0) = true := by simpa using he
        generalize (putL s off d).2 = e at CP heb
        clear he hn
        by_cases h0 : off < 0
        · clear hor
          go_enter Tryd.func6, Tryd.ntmps6
          go_wp2_with (first
            | (go_at_call 8; refine (CA.out _).mono ?_; rintro e w1 ⟨rfl, f1⟩)
            | (go_at_call 9; refine (CP.out _).mono ?_; rintro e w2 ⟨rfl, f2⟩))
          go_ret
          exact ⟨rfl, f1.no f2⟩
        · have h0z : 0 ≤ off := by omega
          have h1z : 4096 - (d.length : Int) < off := by omega
          clear hor h0
          go_enter Tryd.func6, Tryd.ntmps6
          go_wp2_with (first
            | (go_at_call 8; refine (CA.out _).mono ?_; rintro e w1 ⟨rfl, f1⟩)
            | (go_at_call 9; refine (CP.out _).mono ?_; rintro e w2 ⟨rfl, f2⟩))
          go_ret
          exact ⟨rfl, f1.no f2⟩
    · have c2z : (4096 : Int) < (d.length : Int) := by omega
      clear c2
      go_enter Tryd.func6, Tryd.ntmps6
      go_wp2_with (go_at_call 8; refine (CA.out _).mono ?_; rintro e w1 ⟨rfl, f1⟩)
      go_ret
      exact ⟨rfl, f1⟩
  · have c1z : (4096 : Int) < (s.length : Int) := by omega
    clear c1
    go_enter Tryd.func6, Tryd.ntmps6
    go_wp2_with (go_at_call 8; refine (CA.out _).mono ?_; rintro e w1 ⟨rfl, f1⟩)
    go_ret
    exact ⟨rfl, f1⟩
end Go.Proofs.YtaohfmmapammcaaDoor.Ch
