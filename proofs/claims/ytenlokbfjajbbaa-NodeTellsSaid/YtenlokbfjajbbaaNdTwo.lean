/- Texts joined by merge.py: NdLoop, NdTail, NdParse, NodeTells, NodeTellsRow. -/
import Derived.Test.YtenlokbfjajbbaaNdOne
import Derived.Test.YtenlokbfjajbbaaNodeParse
import Derived.Test.YtenlokbfjajbbaaNodeAwake
import Derived.Test.YtenlokbfjajbbaaNodeBackT
import Derived.Test.YtenlokbfjajbbaaNodeOpen
import Derived.Test.YtenlokbfjajbbaaRows
import Derived.ProofKit
import Derived.SizedLaws
import Derived.ChangeMaps5
import Derived.Carry
/- The document's Parse: its loops. Condition: the text's size is bounded, as written out. -/
set_option linter.unusedSimpArgs false
set_option linter.unusedVariables false
namespace Go.Proofs.Ytenlokbfjajbbaa.Nd
open Go Go.RowKit Go.Proofs.YtenlokbfjajbbaaW.PrintWords Go.Proofs.YtenlokbfjajbbaaW.PrintLast Go.Proofs.Ytenlokbfjajbbaa.Ev Go.Proofs.Ytenlokbfjajbbaa.Reg Go.Proofs.Ytenlokbfjajbbaa.Sb

noncomputable def bodyRParse : Code := Try.f40.body.getD .skip
def inoZ (p q r s : UInt8) : Nat → Int
  | 0 => 0
  | 1 => (p.toNat : Int)
  | 2 => (p.toNat : Int) * 256 + (q.toNat : Int)
  | 3 => ((p.toNat : Int) * 256 + (q.toNat : Int)) * 256 + (r.toNat : Int)
  | _ => (((p.toNat : Int) * 256 + (q.toNat : Int)) * 256 + (r.toNat : Int)) * 256 + (s.toNat : Int)
def inoB (p q r s : UInt8) : Nat → UInt8
  | 0 => p
  | 1 => q
  | 2 => r
  | _ => s
theorem inoZ_next (p q r s : UInt8) : ∀ i, i < 4 → inoZ p q r s i * 256 + ((inoB p q r s i).toNat : Int) = inoZ p q r s (i + 1)
  | 0, _ => by simp [inoZ, inoB]
  | 1, _ => rfl
  | 2, _ => rfl
  | 3, _ => rfl
  | n + 4, h => by omega
theorem inoZ_lo (p q r s : UInt8) : ∀ i, 0 ≤ inoZ p q r s i ∧ inoZ p q r s i < 4294967296
  | 0 => by simp [inoZ]
  | 1 => by have := p.toNat_lt; simp only [inoZ]; omega
  | 2 => by have := p.toNat_lt; have := q.toNat_lt; simp only [inoZ]; omega
  | 3 => by have := p.toNat_lt; have := q.toNat_lt; have := r.toNat_lt; simp only [inoZ]; omega
  | n + 4 => by have := p.toNat_lt; have := q.toNat_lt; have := r.toNat_lt; have := s.toNat_lt; simp only [inoZ]; omega
theorem idx_at (S : List UInt8) (z : Int) (j : Nat) (c : UInt8) (hz : z = (j : Int)) (h : S[j]? = some c) (W' : World) : (Instr.index 9 (.string (bs S)) (.int .i64 z)).run Try.prog W' = .ok (.int .u8 (c.toNat : Int)) W' := by
  obtain ⟨hj, hc⟩ := List.getElem?_eq_some_iff.1 h
  subst hz
  rw [run_index_string W' 9 (bs S) .i64 _ Try.underlying9, dif_pos ⟨by omega, by rw [bs_size]; omega⟩]
  subst hc
  rfl
theorem sl_at (S : List UInt8) (x y : Int) (i j : Nat) (l : List UInt8) (hx : x = (i : Int)) (hy : y = (j : Int)) (hij : i ≤ j) (hj : j ≤ S.length) (h : (S.drop i).take (j - i) = l) (W' : World) :
    (Instr.slice 9 (.string (bs S)) (some (.int .i64 x)) (some (.int .i64 y)) none).run Try.prog W' = .ok (.string (bs l)) W' := by
  have hsz := bs_size S
  subst hx hy
  rw [run_slice_string W' 9 (bs S) .i64 .i64 _ _ Try.underlying9 (by omega) (by omega) (by omega)]
  rw [show bs S = ByteArray.mk S.toArray from rfl, ByteArray.extract_mk, ← h]
  simp [bs, List.extract_eq_take_drop]

set_option maxHeartbeats 4000000 in
set_option maxRecDepth 100000 in
theorem rparse_ino (g2 g4 : Nat) (S : List UInt8) (n c : Nat) (p q r s : UInt8) (W : World) (u : Nat → Value) (hl : S.length ≤ 1099511627776) (hn : n ≤ 1099511627776) (hc : c ≤ 1099511627776)
    (hx : ∀ i, i < 4 → S[n + 1 + c + i]? = some (inoB p q r s i)) (Q : Exit → Act → World → Prop)
    (hQ : ∀ u : Nat → Value, Q .normal { tmps := List.toArray (.string (bs S) :: undef :: .pointer (some ⟨g2, 0, none⟩) :: u 3 :: .pointer (some ⟨g4, 0, none⟩) :: .int .i64 (n : Int) :: .int .i64 (c : Int) :: .int .i64 (inoZ p q r s 4) :: u 8 :: u 9 :: u 10 :: u 11 :: u 12 :: u 13 :: u 14 :: u 15 :: u 16 :: u 17 :: u 18 :: u 19 :: u 20 :: u 21 :: u 22 :: u 23 :: u 24 :: u 25 :: u 26 :: u 27 :: u 28 :: u 29 :: u 30 :: u 31 :: u 32 :: u 33 :: u 34 :: u 35 :: u 36 :: u 37 :: u 38 :: u 39 :: u 40 :: u 41 :: u 42 :: u 43 :: u 44 :: u 45 :: u 46 :: u 47 :: u 48 :: u 49 :: u 50 :: u 51 :: u 52 :: u 53 :: u 54 :: u 55 :: u 56 :: u 57 :: u 58 :: u 59 :: u 60 :: u 61 :: u 62 :: u 63 :: u 64 :: u 65 :: u 66 :: u 67 :: u 68 :: u 69 :: u 70 :: u 71 :: u 72 :: u 73 :: u 74 :: u 75 :: u 76 :: u 77 :: u 78 :: u 79 :: u 80 :: u 81 :: u 82 :: u 83 :: u 84 :: u 85 :: u 86 :: u 87 :: u 88 :: u 89 :: u 90 :: u 91 :: u 92 :: u 93 :: u 94 :: u 95 :: u 96 :: u 97 :: u 98 :: []), defers := [] } W) :
    Code.wp Try.prog (sub [1,1,1,1,1,1,0,0,0,1,0,1,1,1,0,1] bodyRParse) Q { tmps := List.toArray (.string (bs S) :: undef :: .pointer (some ⟨g2, 0, none⟩) :: u 3 :: .pointer (some ⟨g4, 0, none⟩) :: .int .i64 (n : Int) :: .int .i64 (c : Int) :: .int .i64 0 :: .int .i64 0 :: u 9 :: u 10 :: u 11 :: u 12 :: u 13 :: u 14 :: u 15 :: u 16 :: u 17 :: u 18 :: u 19 :: u 20 :: u 21 :: u 22 :: u 23 :: u 24 :: u 25 :: u 26 :: u 27 :: u 28 :: u 29 :: u 30 :: u 31 :: u 32 :: u 33 :: u 34 :: u 35 :: u 36 :: u 37 :: u 38 :: u 39 :: u 40 :: u 41 :: u 42 :: u 43 :: u 44 :: u 45 :: u 46 :: u 47 :: u 48 :: u 49 :: u 50 :: u 51 :: u 52 :: u 53 :: u 54 :: u 55 :: u 56 :: u 57 :: u 58 :: u 59 :: u 60 :: u 61 :: u 62 :: u 63 :: u 64 :: u 65 :: u 66 :: u 67 :: u 68 :: u 69 :: u 70 :: u 71 :: u 72 :: u 73 :: u 74 :: u 75 :: u 76 :: u 77 :: u 78 :: u 79 :: u 80 :: u 81 :: u 82 :: u 83 :: u 84 :: u 85 :: u 86 :: u 87 :: u 88 :: u 89 :: u 90 :: u 91 :: u 92 :: u 93 :: u 94 :: u 95 :: u 96 :: u 97 :: u 98 :: []), defers := [] } W := by
  conv => arg 2; whnf
  have HQ := Kp.mk hQ
  have HX := Kp.mk hx
  clear hQ hx
  refine wp_block ?_
  refine wp_loop_ghost_k (fun m a' w' => ∃ (i : Nat) (z : Int) (u : Nat → Value), (i ≤ 4 ∧ 4 - i < m ∧ inoZ p q r s i = z ∧ w' = W) ∧ a' = { tmps := List.toArray (.string (bs S) :: undef :: .pointer (some ⟨g2, 0, none⟩) :: u 3 :: .pointer (some ⟨g4, 0, none⟩) :: .int .i64 (n : Int) :: .int .i64 (c : Int) :: .int .i64 z :: .int .i64 (i : Int) :: u 9 :: u 10 :: u 11 :: u 12 :: u 13 :: u 14 :: u 15 :: u 16 :: u 17 :: u 18 :: u 19 :: u 20 :: u 21 :: u 22 :: u 23 :: u 24 :: u 25 :: u 26 :: u 27 :: u 28 :: u 29 :: u 30 :: u 31 :: u 32 :: u 33 :: u 34 :: u 35 :: u 36 :: u 37 :: u 38 :: u 39 :: u 40 :: u 41 :: u 42 :: u 43 :: u 44 :: u 45 :: u 46 :: u 47 :: u 48 :: u 49 :: u 50 :: u 51 :: u 52 :: u 53 :: u 54 :: u 55 :: u 56 :: u 57 :: u 58 :: u 59 :: u 60 :: u 61 :: u 62 :: u 63 :: u 64 :: u 65 :: u 66 :: u 67 :: u 68 :: u 69 :: u 70 :: u 71 :: u 72 :: u 73 :: u 74 :: u 75 :: u 76 :: u 77 :: u 78 :: u 79 :: u 80 :: u 81 :: u 82 :: u 83 :: u 84 :: u 85 :: u 86 :: u 87 :: u 88 :: u 89 :: u 90 :: u 91 :: u 92 :: u 93 :: u 94 :: u 95 :: u 96 :: u 97 :: u 98 :: []), defers := [] }) 5 ⟨0, 0, u, ⟨by omega, by omega, rfl, rfl⟩, rfl⟩ ?_
  rintro m a' w' ⟨i, z, u, ⟨hi, hm, hz, rfl⟩, rfl⟩ J K hJ hK
  have HJ := Kp.mk hJ
  have HK := Kp.mk hK
  have hz0 : 0 ≤ z := by have := (inoZ_lo p q r s i).1; omega
  have hz1 : z < 4294967296 := by have := (inoZ_lo p q r s i).2; omega
  have HZ := Kp.mk hz
  have HM := Kp.mk hm
  clear hJ hK hz hm
  by_cases h4 : i < 4
  · have h4z : (i : Int) < 4 := by omega
    have hidx := idx_at S ((n : Int) + 1 + (c : Int) + (i : Int)) (n + 1 + c + i) (inoB p q r s i) (by omega) (HX.out i h4)
    obtain ⟨b, hb⟩ : ∃ b, inoB p q r s i = b := ⟨_, rfl⟩
    rw [hb] at hidx
    have hbn := b.toNat_lt
    have hw : IntKind.i64.wrap (b.toNat : Int) = (b.toNat : Int) := wraps_i64 _ (by omega) (by omega)
    have hnx : inoZ p q r s (i + 1) = z * 256 + (b.toNat : Int) := by rw [← inoZ_next p q r s i h4, HZ.out, hb]
    have HNX := Kp.mk hnx
    clear hnx hb
    go_wp2_with fail
    obtain ⟨m1, rfl⟩ : ∃ m1, m = m1 + 1 := ⟨m - 1, by have := HM.out; omega⟩
    have hm1 : 4 - (i + 1) < m1 := by have := HM.out; omega
    refine HK.out _ _ (Handed.intro m1 (by omega) (HJ.out _ _ _ ⟨i + 1, z * 256 + (b.toNat : Int), ex_u ⟨by omega, hm1, HNX.out, rfl⟩ rfl⟩))
  · have h4z : ¬ (i : Int) < 4 := by omega
    obtain rfl : i = 4 := by omega
    have hz4 := HZ.out
    subst hz4
    go_wp2_with fail
    exact K_u HQ.out rfl

theorem parse_step' (n : Nat) (c : UInt8) (nm : List UInt8) (p q r s : UInt8) (l2 : List UInt8) (h : nm.length = c.toNat) :
    parseE (n + 1) (c :: (nm ++ p :: q :: r :: s :: l2)) = (parseE n l2).map fun es => (bs nm, inoZ p q r s 4) :: es := by
  rw [parse_step n c nm p q r s l2 h]
  have : (p.toNat : Int) * 16777216 + (q.toNat : Int) * 65536 + (r.toNat : Int) * 256 + (s.toNat : Int) = inoZ p q r s 4 := by simp only [inoZ]; omega
  rw [this]
set_option maxHeartbeats 8000000 in
set_option maxRecDepth 100000 in
theorem rparse_loop (g2 g4 : Nat) (mm : Int) (S R0 : List UInt8) (W : World) (u : Nat → Value) (hl : S.length ≤ 1099511627776) (hS : S.drop 3 = R0) (h3 : 3 ≤ S.length) (h24 : g2 ≠ g4)
    (b4 : Blk W g4 56 (ndL 2 mm ⟨#[]⟩ ⟨#[]⟩ (.slice none 0 0))) (b2 : Blk W g2 56 (ndL 0 0 ⟨#[]⟩ ⟨#[]⟩ (.slice none 0 0))) (Q : Exit → Act → World → Prop)
    (hPan : ∀ c (A B : Array Value) D w, Q (.panic c) { tmps := A, defers := D } w → Q (.panic c) { tmps := B, defers := D } w)
    (hQ : ∀ W' es v, parseE (R0.length + 1) R0 = some es → Fr (One g4) W W' → W'.ownsRow W.heap.size 75 2 v es.length (entsV es) → Blk W' g4 56 (ndL 2 mm ⟨#[]⟩ ⟨#[]⟩ v) → ∀ u : Nat → Value, Q .normal { tmps := List.toArray (u 0 :: undef :: .pointer (some ⟨g2, 0, none⟩) :: u 3 :: .pointer (some ⟨g4, 0, none⟩) :: u 5 :: u 6 :: u 7 :: u 8 :: u 9 :: u 10 :: u 11 :: u 12 :: u 13 :: u 14 :: u 15 :: u 16 :: u 17 :: u 18 :: u 19 :: u 20 :: u 21 :: u 22 :: u 23 :: u 24 :: u 25 :: u 26 :: u 27 :: u 28 :: u 29 :: u 30 :: u 31 :: u 32 :: u 33 :: u 34 :: u 35 :: u 36 :: u 37 :: u 38 :: u 39 :: u 40 :: u 41 :: u 42 :: u 43 :: u 44 :: u 45 :: u 46 :: u 47 :: u 48 :: u 49 :: u 50 :: u 51 :: u 52 :: u 53 :: u 54 :: u 55 :: u 56 :: u 57 :: u 58 :: u 59 :: u 60 :: u 61 :: u 62 :: u 63 :: u 64 :: u 65 :: u 66 :: u 67 :: u 68 :: u 69 :: u 70 :: u 71 :: u 72 :: u 73 :: u 74 :: u 75 :: u 76 :: u 77 :: u 78 :: u 79 :: u 80 :: u 81 :: u 82 :: u 83 :: u 84 :: u 85 :: u 86 :: u 87 :: u 88 :: u 89 :: u 90 :: u 91 :: u 92 :: u 93 :: u 94 :: u 95 :: u 96 :: u 97 :: u 98 :: []), defers := [] } W')
    (hE : ∀ W' W2, parseE (R0.length + 1) R0 = none → Fr (One g4) W W' → Fr (One g2) W' W2 → Blk W2 g2 56 (ndL 0 0 ⟨#[]⟩ ⟨#[]⟩ (.slice none 0 0)) → ∀ u : Nat → Value, Q .ret { tmps := List.toArray (u 0 :: undef :: .pointer (some ⟨g2, 0, none⟩) :: .int .i64 2 :: u 4 :: u 5 :: u 6 :: u 7 :: u 8 :: u 9 :: u 10 :: u 11 :: u 12 :: u 13 :: u 14 :: u 15 :: u 16 :: u 17 :: u 18 :: u 19 :: u 20 :: u 21 :: u 22 :: u 23 :: u 24 :: u 25 :: u 26 :: u 27 :: u 28 :: u 29 :: u 30 :: u 31 :: u 32 :: u 33 :: u 34 :: u 35 :: u 36 :: u 37 :: u 38 :: u 39 :: u 40 :: u 41 :: u 42 :: u 43 :: u 44 :: u 45 :: u 46 :: u 47 :: u 48 :: u 49 :: u 50 :: u 51 :: u 52 :: u 53 :: u 54 :: u 55 :: u 56 :: u 57 :: u 58 :: u 59 :: u 60 :: u 61 :: u 62 :: u 63 :: u 64 :: u 65 :: u 66 :: u 67 :: u 68 :: u 69 :: u 70 :: u 71 :: u 72 :: u 73 :: u 74 :: u 75 :: u 76 :: u 77 :: u 78 :: u 79 :: u 80 :: u 81 :: u 82 :: u 83 :: u 84 :: u 85 :: u 86 :: u 87 :: u 88 :: u 89 :: u 90 :: u 91 :: u 92 :: u 93 :: u 94 :: u 95 :: u 96 :: u 97 :: u 98 :: []), defers := [] } W2) :
    Code.wp Try.prog (sub [1,1,1,1,1,1,0] bodyRParse) Q { tmps := List.toArray (.string (bs S) :: undef :: .pointer (some ⟨g2, 0, none⟩) :: u 3 :: .pointer (some ⟨g4, 0, none⟩) :: .int .i64 3 :: u 6 :: u 7 :: u 8 :: u 9 :: u 10 :: u 11 :: u 12 :: u 13 :: u 14 :: u 15 :: u 16 :: u 17 :: u 18 :: u 19 :: u 20 :: u 21 :: u 22 :: u 23 :: u 24 :: u 25 :: u 26 :: u 27 :: u 28 :: u 29 :: u 30 :: u 31 :: u 32 :: u 33 :: u 34 :: u 35 :: u 36 :: u 37 :: u 38 :: u 39 :: u 40 :: u 41 :: u 42 :: u 43 :: u 44 :: u 45 :: u 46 :: u 47 :: u 48 :: u 49 :: u 50 :: u 51 :: u 52 :: u 53 :: u 54 :: u 55 :: u 56 :: u 57 :: u 58 :: u 59 :: u 60 :: u 61 :: u 62 :: u 63 :: u 64 :: u 65 :: u 66 :: u 67 :: u 68 :: u 69 :: u 70 :: u 71 :: u 72 :: u 73 :: u 74 :: u 75 :: u 76 :: u 77 :: u 78 :: u 79 :: u 80 :: u 81 :: u 82 :: u 83 :: u 84 :: u 85 :: u 86 :: u 87 :: u 88 :: u 89 :: u 90 :: u 91 :: u 92 :: u 93 :: u 94 :: u 95 :: u 96 :: u 97 :: u 98 :: []), defers := [] } W := by
  conv => arg 2; whnf
  have HQ := Kp.mk hQ
  have HE := Kp.mk hE
  have HPan := Kp.mk hPan
  have H2 := Kp.mk b2
  clear hQ hE hPan b2
  have hg4 := b4.lt
  have hsz : (bs S).size = S.length := bs_size S
  have hR0 : R0.length + 3 = S.length := by rw [← hS, List.length_drop]; omega
  refine wp_block ?_
  refine wp_loop_ghost_k (fun n a' w' => ∃ (k : Nat) (rest : List UInt8) (es : List Ent) (v : Value) (u : Nat → Value), (rest.length < n ∧ S.drop k = rest ∧ k + rest.length = S.length ∧ es.length + rest.length ≤ R0.length ∧ parseE (R0.length + 1) R0 = (parseE n rest).map (es ++ ·) ∧ Fr (One g4) W w' ∧ w'.ownsRow W.heap.size 75 2 v es.length (entsV es) ∧ Blk w' g4 56 (ndL 2 mm ⟨#[]⟩ ⟨#[]⟩ v)) ∧ a' = { tmps := List.toArray (.string (bs S) :: undef :: .pointer (some ⟨g2, 0, none⟩) :: u 3 :: .pointer (some ⟨g4, 0, none⟩) :: .int .i64 (k : Int) :: u 6 :: u 7 :: u 8 :: u 9 :: u 10 :: u 11 :: u 12 :: u 13 :: u 14 :: u 15 :: u 16 :: u 17 :: u 18 :: u 19 :: u 20 :: u 21 :: u 22 :: u 23 :: u 24 :: u 25 :: u 26 :: u 27 :: u 28 :: u 29 :: u 30 :: u 31 :: u 32 :: u 33 :: u 34 :: u 35 :: u 36 :: u 37 :: u 38 :: u 39 :: u 40 :: u 41 :: u 42 :: u 43 :: u 44 :: u 45 :: u 46 :: u 47 :: u 48 :: u 49 :: u 50 :: u 51 :: u 52 :: u 53 :: u 54 :: u 55 :: u 56 :: u 57 :: u 58 :: u 59 :: u 60 :: u 61 :: u 62 :: u 63 :: u 64 :: u 65 :: u 66 :: u 67 :: u 68 :: u 69 :: u 70 :: u 71 :: u 72 :: u 73 :: u 74 :: u 75 :: u 76 :: u 77 :: u 78 :: u 79 :: u 80 :: u 81 :: u 82 :: u 83 :: u 84 :: u 85 :: u 86 :: u 87 :: u 88 :: u 89 :: u 90 :: u 91 :: u 92 :: u 93 :: u 94 :: u 95 :: u 96 :: u 97 :: u 98 :: []), defers := [] }) (R0.length + 1) ⟨3, R0, [], .slice none 0 0, u, ⟨by omega, hS, by omega, by simp, by simp, Fr.refl _ _, ⟨rfl, .inl ⟨rfl, rfl⟩⟩, b4⟩, rfl⟩ ?_
  rintro n a' w' ⟨k, rest, es, v, u, ⟨hn, hk, hkr, hlen, hpar, f, ho, b⟩, rfl⟩ J K hJ hK
  have HJ := Kp.mk hJ
  have HK := Kp.mk hK
  have F := Kp.mk f
  have B := Kp.mk b
  have O := Kp.mk ho
  have HP := Kp.mk hpar
  have HN := Kp.mk hn
  have HKD := Kp.mk hk
  have q0 := b.at_ 0 rfl
  clear hJ hK f b ho hpar hn hk b4 hS
  cases rest with
  | nil =>
    have hkl : ¬ (k : Int) < (S.length : Int) := by simp at hkr; omega
    go_wp2_with fail
    obtain ⟨n1, rfl⟩ : ∃ n1, n = n1 + 1 := ⟨n - 1, by have := HN.out; simp at this; omega⟩
    have hes : parseE (R0.length + 1) R0 = some es := by rw [HP.out]; simp [parseE]
    exact K_u (HQ.out w' es v hes F.out O.out B.out) rfl
  | cons c l =>
    rw [List.length_cons] at hlen hkr
    have hkl : (k : Int) < (S.length : Int) := by omega
    have hcn := c.toNat_lt
    have hget : ∀ j, S[k + j]? = (c :: l)[j]? := fun j => by rw [← List.getElem?_drop, HKD.out]
    have hi0 := idx_at S (k : Int) k c rfl (by have := hget 0; simpa using this)
    have hw0 : IntKind.i64.wrap (c.toNat : Int) = (c.toNat : Int) := wraps_i64 (c.toNat : Int) (by omega) (by omega)
    by_cases hlt : l.length < c.toNat + 4
    · have hlz : (S.length : Int) < (k : Int) + 1 + (c.toNat : Int) + 4 := by omega
      have HG := Kp.mk hget
      clear hget
      go_wp2_with ((with_reducible refine gate_store (t := 56) (p := 2) rfl ?_); go_must (refine ev_store_row rfl 56 _ _ rfl g2 (ndL 0 0 ⟨#[]⟩ ⟨#[]⟩ (.slice none 0 0)).toArray rfl rfl 56 _ (H2.out.one F.out h24) sizeNd rfl (ndL_one _ _ _ _ rfl) ?_); intro wS fS bS)
      obtain ⟨n1, rfl⟩ : ∃ n1, n = n1 + 1 := ⟨n - 1, by have := HN.out; simp at this; omega⟩
      have hes : parseE (R0.length + 1) R0 = none := by rw [HP.out]; simp [parseE, hlt]
      exact K_u (HE.out w' wS hes F.out fS bS) rfl
    · have hlz : ¬ (S.length : Int) < (k : Int) + 1 + (c.toNat : Int) + 4 := by omega
      obtain ⟨nm, p, q, r, s, l2, hcut, hnm⟩ := cut_entry c l (by omega)
      have hll : l.length = c.toNat + 4 + l2.length := by rw [hcut]; simp; omega
      have hx : ∀ i, i < 4 → S[k + 1 + c.toNat + i]? = some (inoB p q r s i) := fun i hi => by
        rw [show k + 1 + c.toNat + i = k + (c.toNat + i + 1) by omega, hget, List.getElem?_cons_succ, hcut, ← hnm, List.getElem?_append_right (by omega), show nm.length + i - nm.length = i by omega]
        match i, hi with
        | 0, _ => rfl
        | 1, _ => rfl
        | 2, _ => rfl
        | 3, _ => rfl
      have hs2 := sl_at S ((k : Int) + 1) ((k : Int) + 1 + (c.toNat : Int)) (k + 1) (k + 1 + c.toNat) nm (by omega) (by omega) (by omega) (by omega) (by rw [← List.drop_drop, HKD.out, List.drop_one, List.tail_cons, hcut, show k + 1 + c.toNat - (k + 1) = nm.length by omega, List.take_left])
      have hnx : S.drop (k + c.toNat + 5) = l2 := by rw [show k + c.toNat + 5 = k + (nm.length + 5) by omega, ← List.drop_drop, HKD.out, show nm.length + 5 = (nm.length + 4) + 1 by omega, List.drop_succ_cons, hcut, ← List.drop_drop, List.drop_left]; rfl
      have hv1 : IntKind.i64.wrap ((k : Int) + 1) = (k : Int) + 1 := by rw [IntKind.wrap_i64]; omega
      have hv2 : IntKind.i64.wrap ((k : Int) + 1 + (c.toNat : Int)) = (k : Int) + 1 + (c.toNat : Int) := by rw [IntKind.wrap_i64]; omega
      have HG := Kp.mk hget
      have HX := Kp.mk hx
      have HNX := Kp.mk hnx
      have HCUT := Kp.mk hcut
      have HNM := Kp.mk hnm
      clear hcut hnm hget hx hnx
      go_upto_block 2 with fail
      refine wp_u (fun u => rparse_ino g2 g4 S k c.toNat p q r s w' u hl (by omega) (by omega) HX.out _ ?_) rfl
      intro u
      simp only [Exit.then]
      obtain ⟨ZZ, hZZ⟩ : ∃ z, inoZ p q r s 4 = z := ⟨_, rfl⟩
      rw [hZZ]
      have hZ0 : 0 ≤ ZZ := by have := (inoZ_lo p q r s 4).1; omega
      have hZ1 : ZZ < 4294967296 := by have := (inoZ_lo p q r s 4).2; omega
      have HZZ := Kp.mk hZZ
      clear hZZ
      first | (refine ‹∀ (a : Act) (w : World), Code.wp Try.prog _ _ a w → _› _ _ ?_) | skip
      go_wp2_with fail
      refine start_ (n := 16) (S := (fun w'' : World => w''.cell? ⟨g4, 4, none⟩ = some v)) (ds := [15]) #[false, false, false, false, false, false, false, false, false, false, false, false, false, false, false, false] (by kernel_rfl) rfl rfl ((Blk.drew B.out).at_ 4 rfl) (fun hHeld => ?_)
      refine pure_ (i := 0) (N := some 75) (v := ?_) (a' := ?_) #[true, false, false, false, false, false, false, false, false, false, false, false, false, false, false, false] rfl rfl (by kernel_rfl) (fun _ _ _ h => HPan.out _ _ _ _ _ h) (Or.inl ⟨by rfl, ?_⟩) ?_ ?_
      rotate_left
      · intro w'; go_simp; with_reducible rfl
      rotate_left
      · simp only [Act.put, List.setIfInBounds_toArray, List.set_cons_zero, List.set_cons_succ]; rfl
      refine pure_ (i := 2) (N := some 77) (v := ?_) (a' := ?_) #[true, false, true, false, false, false, false, false, false, false, false, false, false, false, false, false] rfl rfl (by kernel_rfl) (fun _ _ _ h => HPan.out _ _ _ _ _ h) (Or.inl ⟨by rfl, ?_⟩) ?_ ?_
      rotate_left
      · intro w'; go_simp; with_reducible rfl
      rotate_left
      · simp only [Act.put, List.setIfInBounds_toArray, List.set_cons_zero, List.set_cons_succ]; rfl
      refine pure_ (i := 3) (N := some 78) (v := ?_) (a' := ?_) #[true, false, true, true, false, false, false, false, false, false, false, false, false, false, false, false] rfl rfl (by kernel_rfl) (fun _ _ _ h => HPan.out _ _ _ _ _ h) (Or.inl ⟨by rfl, ?_⟩) ?_ ?_
      rotate_left
      · intro w'; go_simp; with_reducible rfl
      rotate_left
      · simp only [Act.put, List.setIfInBounds_toArray, List.set_cons_zero, List.set_cons_succ]; rfl
      refine pure_ (i := 4) (N := some 79) (v := ?_) (a' := ?_) #[true, false, true, true, true, false, false, false, false, false, false, false, false, false, false, false] rfl rfl (by kernel_rfl) (fun _ _ _ h => HPan.out _ _ _ _ _ h) (Or.inl ⟨by rfl, ?_⟩) ?_ ?_
      rotate_left
      · intro w'; go_simp; with_reducible rfl
      rotate_left
      · simp only [Act.put, List.setIfInBounds_toArray, List.set_cons_zero, List.set_cons_succ]; rfl
      refine pure_ (i := 5) (N := some 80) (v := ?_) (a' := ?_) #[true, false, true, true, true, true, false, false, false, false, false, false, false, false, false, false] rfl rfl (by kernel_rfl) (fun _ _ _ h => HPan.out _ _ _ _ _ h) (Or.inl ⟨by rfl, ?_⟩) ?_ ?_
      rotate_left
      · intro w'; go_simp; with_reducible rfl
      rotate_left
      · simp only [Act.put, List.setIfInBounds_toArray, List.set_cons_zero, List.set_cons_succ]; rfl
      refine pure_ (i := 6) (N := some 81) (v := ?_) (a' := ?_) #[true, false, true, true, true, true, true, false, false, false, false, false, false, false, false, false] rfl rfl (by kernel_rfl) (fun _ _ _ h => HPan.out _ _ _ _ _ h) (Or.inl ⟨by rfl, ?_⟩) ?_ ?_
      rotate_left
      · intro w'; go_simp; with_reducible rfl
      rotate_left
      · simp only [Act.put, List.setIfInBounds_toArray, List.set_cons_zero, List.set_cons_succ]; rfl
      refine pure_ (i := 7) (N := some 82) (v := ?_) (a' := ?_) #[true, false, true, true, true, true, true, true, false, false, false, false, false, false, false, false] rfl rfl (by kernel_rfl) (fun _ _ _ h => HPan.out _ _ _ _ _ h) (Or.inl ⟨by rfl, ?_⟩) ?_ ?_
      rotate_left
      · intro w'; go_simp; with_reducible rfl
      rotate_left
      · simp only [Act.put, List.setIfInBounds_toArray, List.set_cons_zero, List.set_cons_succ]; rfl
      refine pure_ (i := 8) (N := some 83) (v := ?_) (a' := ?_) #[true, false, true, true, true, true, true, true, true, false, false, false, false, false, false, false] rfl rfl (by kernel_rfl) (fun _ _ _ h => HPan.out _ _ _ _ _ h) (Or.inl ⟨by rfl, ?_⟩) ?_ ?_
      rotate_left
      · intro w'; go_simp; with_reducible rfl
      rotate_left
      · simp only [Act.put, List.setIfInBounds_toArray, List.set_cons_zero, List.set_cons_succ]; rfl
      refine pure_ (i := 9) (N := some 84) (v := ?_) (a' := ?_) #[true, false, true, true, true, true, true, true, true, true, false, false, false, false, false, false] rfl rfl (by kernel_rfl) (fun _ _ _ h => HPan.out _ _ _ _ _ h) (Or.inl ⟨by rfl, ?_⟩) ?_ ?_
      rotate_left
      · intro w'; go_simp; with_reducible rfl
      rotate_left
      · simp only [Act.put, List.setIfInBounds_toArray, List.set_cons_zero, List.set_cons_succ]; rfl
      refine pure_ (i := 10) (N := some 85) (v := ?_) (a' := ?_) #[true, false, true, true, true, true, true, true, true, true, true, false, false, false, false, false] rfl rfl (by kernel_rfl) (fun _ _ _ h => HPan.out _ _ _ _ _ h) (Or.inl ⟨by rfl, ?_⟩) ?_ ?_
      rotate_left
      · intro w'; go_simp; with_reducible rfl
      rotate_left
      · simp only [Act.put, List.setIfInBounds_toArray, List.set_cons_zero, List.set_cons_succ]; rfl
      refine pure_ (i := 11) (N := some 86) (v := ?_) (a' := ?_) #[true, false, true, true, true, true, true, true, true, true, true, true, false, false, false, false] rfl rfl (by kernel_rfl) (fun _ _ _ h => HPan.out _ _ _ _ _ h) (Or.inl ⟨by rfl, ?_⟩) ?_ ?_
      rotate_left
      · intro w'; go_simp; with_reducible rfl
      rotate_left
      · simp only [Act.put, List.setIfInBounds_toArray, List.set_cons_zero, List.set_cons_succ]; rfl
      refine take_ (i := 1) (N := some 76) (v := ?_) (a' := ?_) #[true, true, true, true, true, true, true, true, true, true, true, true, false, false, false, false] rfl rfl (by kernel_rfl) (fun _ _ _ h => HPan.out _ _ _ _ _ h) (Or.inl ⟨by rfl, ?_⟩) hHeld ?_ ?_
      rotate_left
      · rintro w' s0; skip; go_simp; with_reducible rfl
      rotate_left
      · simp only [Act.put, List.setIfInBounds_toArray, List.set_cons_zero, List.set_cons_succ]; rfl
      refine one_ (i := 12) (N := some 87) #[true, true, true, true, true, true, true, true, true, true, true, true, true, false, false, false] rfl rfl (by kernel_rfl) (by decide) (fun K hK => ?_)
      refine value_ (w1 := ?_) (v := ?_) (by rfl) rfl ?_ ?_; rotate_left 2; (focus (go_simp; constructor; rfl; rfl)); refine hK.out _ _ (Fr.cell hHeld (Fr.alloc _ _) (fun h => h)) (fun hHeld => ?_)
      clear hK K
      refine norm_ (a' := ?_) ?_ ?_
      rotate_left
      · simp only [Act.put, List.setIfInBounds_toArray, List.set_cons_zero, List.set_cons_succ]; rfl
      refine one_ (i := 13) (N := some 88) #[true, true, true, true, true, true, true, true, true, true, true, true, true, true, false, false] rfl rfl (by kernel_rfl) (by decide) (fun K hK => ?_)
      refine step_append rfl _ _ 54 75 _ 2 24 rfl Try.underlying54 infoE rfl (by omega) (by omega) W.heap.size v es.length (entsV es) rfl (own_no O.out ((Fr.alloc w' _).drew)) (Nat.le_trans F.out.size ((Fr.alloc w' _).drew).size) ⟨w'.heap.size, 0, none⟩ 1 1 (entV (bs nm, ZZ)) rfl rfl (news_blk (Blk.drew (Blk.new w' 75 (entV (bs nm, ZZ))))) (fun x hx => entsV_one [(bs nm, ZZ)] x (by simpa [entsV] using hx)) (by omega) ?_; intro A1 c1 w1 O1 f1 hat1; have hno : ¬ Own v g4 := (fun h => by have := own_new_base O.out g4 h; omega); have B1 : Blk w1 g4 56 (ndL 2 mm ⟨#[]⟩ ⟨#[]⟩ v) := (B.out.no ((Fr.alloc w' _).drew)).keep f1 hno; refine hK.out _ _ (Fr.cell hHeld f1 hno) (fun hHeld => ?_)
      clear hK K
      refine norm_ (a' := ?_) ?_ ?_
      rotate_left
      · simp only [Act.put, List.setIfInBounds_toArray, List.set_cons_zero, List.set_cons_succ]; rfl
      refine pure_ (i := 14) (N := some 89) (v := ?_) (a' := ?_) #[true, true, true, true, true, true, true, true, true, true, true, true, true, true, true, false] rfl rfl (by kernel_rfl) (fun _ _ _ h => HPan.out _ _ _ _ _ h) (Or.inl ⟨by rfl, ?_⟩) ?_ ?_
      rotate_left
      · intro w'; go_simp; with_reducible rfl
      rotate_left
      · simp only [Act.put, List.setIfInBounds_toArray, List.set_cons_zero, List.set_cons_succ]; rfl
      refine last_ (i := 15) (N := none) #[true, true, true, true, true, true, true, true, true, true, true, true, true, true, true, true] rfl rfl (by kernel_rfl) (by decide) (fun K hK => ?_)
      refine step_store rfl 54 _ _ rfl g4 4 (.slice A1 (es.length + 1) c1) rfl rfl rfl 56 _ B1 (by simp) sizeEs ?_; intro w2 f2 b2; refine hK.out _ _ ?_
      clear hK K
      refine norm_ (a' := ?_) ?_ ?_
      rotate_left
      · simp only [Act.put, List.setIfInBounds_toArray, List.set_cons_zero, List.set_cons_succ]; rfl
      refine done_ (by kernel_rfl) ?_
      go_wp2_with fail
      obtain ⟨n1, rfl⟩ : ∃ n1, n = n1 + 1 := ⟨n - 1, by have := HN.out; rw [List.length_cons] at this; omega⟩
      have hF : Fr (One g4) W w2 := ((F.out.no ((Fr.alloc w' _).drew)).trans f1 (fun i h => .inr (own_new_base O.out i h))).trans f2 (fun i h => .inl h)
      have hO : w2.ownsRow W.heap.size 75 2 (.slice A1 (es.length + 1) c1) (es ++ [(bs nm, ZZ)]).length (entsV (es ++ [(bs nm, ZZ)])) := by
        have h := own_keep O1 f2 (fun k hk hh => by have h1 := own_new_base O1 k hk; have h2 : k = g4 := hh; omega)
        rw [entsV_append, List.length_append, List.length_singleton]
        have he : entsV [(bs nm, ZZ)] = entV (bs nm, ZZ) := by simp [entsV]
        rw [he]
        exact h
      have hP : parseE (R0.length + 1) R0 = (parseE n1 l2).map ((es ++ [(bs nm, ZZ)]) ++ ·) := by
        rw [HP.out, HCUT.out, parse_step' n1 c nm p q r s l2 HNM.out, Option.map_map, HZZ.out]
        congr 1
        funext x
        simp
      have hL : (es ++ [(bs nm, ZZ)]).length + l2.length ≤ R0.length := by rw [List.length_append, List.length_singleton]; omega
      have hN1 : l2.length < n1 := by have := HN.out; rw [List.length_cons] at this; omega
      refine HK.out _ _ (Handed.intro n1 (by omega) (HJ.out _ _ _ ⟨k + c.toNat + 5, l2, _, _, ex_u ⟨hN1, HNX.out, by omega, hL, hP, hF, hO, b2⟩ rfl⟩))
end Go.Proofs.Ytenlokbfjajbbaa.Nd

/- The document's Parse: no loop, and the end. No conditions beside those written out. -/
set_option linter.unusedSimpArgs false
set_option linter.unusedVariables false
namespace Go.Proofs.Ytenlokbfjajbbaa.Nd
open Go Go.RowKit Go.Proofs.YtenlokbfjajbbaaW.PrintWords Go.Proofs.Ytenlokbfjajbbaa.Ev Go.Proofs.Ytenlokbfjajbbaa.Reg Go.Proofs.Ytenlokbfjajbbaa.Sb
set_option maxHeartbeats 4000000 in
set_option maxRecDepth 100000 in
theorem rparse_no (g2 g4 : Nat) (kk : Int) (hk : ¬ kk = 2) (W : World) (u : Nat → Value) (q0 : W.cell? ⟨g4, 0, none⟩ = some (.int .i64 kk)) (Q : Exit → Act → World → Prop)
    (hQ : ∀ u : Nat → Value, Q .normal { tmps := List.toArray (u 0 :: undef :: .pointer (some ⟨g2, 0, none⟩) :: u 3 :: .pointer (some ⟨g4, 0, none⟩) :: u 5 :: u 6 :: u 7 :: u 8 :: u 9 :: u 10 :: u 11 :: u 12 :: u 13 :: u 14 :: u 15 :: u 16 :: u 17 :: u 18 :: u 19 :: u 20 :: u 21 :: u 22 :: u 23 :: u 24 :: u 25 :: u 26 :: u 27 :: u 28 :: u 29 :: u 30 :: u 31 :: u 32 :: u 33 :: u 34 :: u 35 :: u 36 :: u 37 :: u 38 :: u 39 :: u 40 :: u 41 :: u 42 :: u 43 :: u 44 :: u 45 :: u 46 :: u 47 :: u 48 :: u 49 :: u 50 :: u 51 :: u 52 :: u 53 :: u 54 :: u 55 :: u 56 :: u 57 :: u 58 :: u 59 :: u 60 :: u 61 :: u 62 :: u 63 :: u 64 :: u 65 :: u 66 :: u 67 :: u 68 :: u 69 :: u 70 :: u 71 :: u 72 :: u 73 :: u 74 :: u 75 :: u 76 :: u 77 :: u 78 :: u 79 :: u 80 :: u 81 :: u 82 :: u 83 :: u 84 :: u 85 :: u 86 :: u 87 :: u 88 :: u 89 :: u 90 :: u 91 :: u 92 :: u 93 :: u 94 :: u 95 :: u 96 :: u 97 :: u 98 :: []), defers := [] } W) :
    Code.wp Try.prog (sub [1,1,1,1,1,1,0] bodyRParse) Q { tmps := List.toArray (u 0 :: undef :: .pointer (some ⟨g2, 0, none⟩) :: u 3 :: .pointer (some ⟨g4, 0, none⟩) :: u 5 :: u 6 :: u 7 :: u 8 :: u 9 :: u 10 :: u 11 :: u 12 :: u 13 :: u 14 :: u 15 :: u 16 :: u 17 :: u 18 :: u 19 :: u 20 :: u 21 :: u 22 :: u 23 :: u 24 :: u 25 :: u 26 :: u 27 :: u 28 :: u 29 :: u 30 :: u 31 :: u 32 :: u 33 :: u 34 :: u 35 :: u 36 :: u 37 :: u 38 :: u 39 :: u 40 :: u 41 :: u 42 :: u 43 :: u 44 :: u 45 :: u 46 :: u 47 :: u 48 :: u 49 :: u 50 :: u 51 :: u 52 :: u 53 :: u 54 :: u 55 :: u 56 :: u 57 :: u 58 :: u 59 :: u 60 :: u 61 :: u 62 :: u 63 :: u 64 :: u 65 :: u 66 :: u 67 :: u 68 :: u 69 :: u 70 :: u 71 :: u 72 :: u 73 :: u 74 :: u 75 :: u 76 :: u 77 :: u 78 :: u 79 :: u 80 :: u 81 :: u 82 :: u 83 :: u 84 :: u 85 :: u 86 :: u 87 :: u 88 :: u 89 :: u 90 :: u 91 :: u 92 :: u 93 :: u 94 :: u 95 :: u 96 :: u 97 :: u 98 :: []), defers := [] } W := by
  conv => arg 2; whnf
  have HQ := Kp.mk hQ
  clear hQ
  refine wp_block ?_
  refine wp_loop_ghost_k (fun m a' w' => ∃ (u : Nat → Value), (0 < m ∧ w' = W) ∧ a' = { tmps := List.toArray (u 0 :: undef :: .pointer (some ⟨g2, 0, none⟩) :: u 3 :: .pointer (some ⟨g4, 0, none⟩) :: u 5 :: u 6 :: u 7 :: u 8 :: u 9 :: u 10 :: u 11 :: u 12 :: u 13 :: u 14 :: u 15 :: u 16 :: u 17 :: u 18 :: u 19 :: u 20 :: u 21 :: u 22 :: u 23 :: u 24 :: u 25 :: u 26 :: u 27 :: u 28 :: u 29 :: u 30 :: u 31 :: u 32 :: u 33 :: u 34 :: u 35 :: u 36 :: u 37 :: u 38 :: u 39 :: u 40 :: u 41 :: u 42 :: u 43 :: u 44 :: u 45 :: u 46 :: u 47 :: u 48 :: u 49 :: u 50 :: u 51 :: u 52 :: u 53 :: u 54 :: u 55 :: u 56 :: u 57 :: u 58 :: u 59 :: u 60 :: u 61 :: u 62 :: u 63 :: u 64 :: u 65 :: u 66 :: u 67 :: u 68 :: u 69 :: u 70 :: u 71 :: u 72 :: u 73 :: u 74 :: u 75 :: u 76 :: u 77 :: u 78 :: u 79 :: u 80 :: u 81 :: u 82 :: u 83 :: u 84 :: u 85 :: u 86 :: u 87 :: u 88 :: u 89 :: u 90 :: u 91 :: u 92 :: u 93 :: u 94 :: u 95 :: u 96 :: u 97 :: u 98 :: []), defers := [] }) 1 ⟨u, ⟨by omega, rfl⟩, rfl⟩ ?_
  rintro m a' w' ⟨u, ⟨hm, rfl⟩, rfl⟩ J K hJ hK
  have HJ := Kp.mk hJ
  have HK := Kp.mk hK
  have HM := Kp.mk hm
  clear hJ hK hm
  go_wp2_with fail
  exact K_u HQ.out rfl
set_option maxHeartbeats 4000000 in
set_option maxRecDepth 100000 in
theorem rparse_tail (g2 g4 : Nat) (N : Nd) (v : Value) (W : World) (u : Nat → Value) (hE : EntS W v N.ents) (hS : Small N.ents) (hi : In v (fun b => b ≠ g2))
    (b4 : Blk W g4 56 (ndL N.kind N.mode N.data N.target v)) (b2 : Blk W g2 56 (ndL 0 0 ⟨#[]⟩ ⟨#[]⟩ (.slice none 0 0))) (Q : Exit → Act → World → Prop)
    (hQ : ∀ W' v', Fr (One g2) W W' → EntS W' v' (doneN N).1.ents → Blk W' g2 56 (ndL (doneN N).1.kind (doneN N).1.mode (doneN N).1.data (doneN N).1.target v') → ∀ u : Nat → Value, Q .ret { tmps := List.toArray (u 0 :: undef :: .pointer (some ⟨g2, 0, none⟩) :: .int .i64 (doneN N).2 :: u 4 :: u 5 :: u 6 :: u 7 :: u 8 :: u 9 :: u 10 :: u 11 :: u 12 :: u 13 :: u 14 :: u 15 :: u 16 :: u 17 :: u 18 :: u 19 :: u 20 :: u 21 :: u 22 :: u 23 :: u 24 :: u 25 :: u 26 :: u 27 :: u 28 :: u 29 :: u 30 :: u 31 :: u 32 :: u 33 :: u 34 :: u 35 :: u 36 :: u 37 :: u 38 :: u 39 :: u 40 :: u 41 :: u 42 :: u 43 :: u 44 :: u 45 :: u 46 :: u 47 :: u 48 :: u 49 :: u 50 :: u 51 :: u 52 :: u 53 :: u 54 :: u 55 :: u 56 :: u 57 :: u 58 :: u 59 :: u 60 :: u 61 :: u 62 :: u 63 :: u 64 :: u 65 :: u 66 :: u 67 :: u 68 :: u 69 :: u 70 :: u 71 :: u 72 :: u 73 :: u 74 :: u 75 :: u 76 :: u 77 :: u 78 :: u 79 :: u 80 :: u 81 :: u 82 :: u 83 :: u 84 :: u 85 :: u 86 :: u 87 :: u 88 :: u 89 :: u 90 :: u 91 :: u 92 :: u 93 :: u 94 :: u 95 :: u 96 :: u 97 :: u 98 :: []), defers := [] } W') :
    Code.wp Try.prog (sub [1,1,1,1,1,1,1] bodyRParse) Q { tmps := List.toArray (u 0 :: undef :: .pointer (some ⟨g2, 0, none⟩) :: u 3 :: .pointer (some ⟨g4, 0, none⟩) :: u 5 :: u 6 :: u 7 :: u 8 :: u 9 :: u 10 :: u 11 :: u 12 :: u 13 :: u 14 :: u 15 :: u 16 :: u 17 :: u 18 :: u 19 :: u 20 :: u 21 :: u 22 :: u 23 :: u 24 :: u 25 :: u 26 :: u 27 :: u 28 :: u 29 :: u 30 :: u 31 :: u 32 :: u 33 :: u 34 :: u 35 :: u 36 :: u 37 :: u 38 :: u 39 :: u 40 :: u 41 :: u 42 :: u 43 :: u 44 :: u 45 :: u 46 :: u 47 :: u 48 :: u 49 :: u 50 :: u 51 :: u 52 :: u 53 :: u 54 :: u 55 :: u 56 :: u 57 :: u 58 :: u 59 :: u 60 :: u 61 :: u 62 :: u 63 :: u 64 :: u 65 :: u 66 :: u 67 :: u 68 :: u 69 :: u 70 :: u 71 :: u 72 :: u 73 :: u 74 :: u 75 :: u 76 :: u 77 :: u 78 :: u 79 :: u 80 :: u 81 :: u 82 :: u 83 :: u 84 :: u 85 :: u 86 :: u 87 :: u 88 :: u 89 :: u 90 :: u 91 :: u 92 :: u 93 :: u 94 :: u 95 :: u 96 :: u 97 :: u 98 :: []), defers := [] } W := by
  conv => arg 2; whnf
  obtain ⟨k, m, d, t, es⟩ := N
  have HE := Kp.mk hE
  have HSM := Kp.mk hS
  have HQ := Kp.mk hQ
  clear hE hS hQ
  by_cases hr : rightB ⟨k, m, d, t, es⟩ = true
  · have hf : doneN ⟨k, m, d, t, es⟩ = (⟨k, m, d, t, es⟩, 0) := by simp [doneN, hr]
    rw [hf] at HQ
    have HRT := Kp.mk hr
    clear hr hf
    go_wp2_with (first
      | ((with_reducible refine gate_dst (N := 94) rfl ?_); go_must (refine ev_load_row rfl 56 _ rfl g4 rfl 56 _ b4 _ Try.underlying56 rfl sizeNd ?_))
      | (go_at_call 48; go_must (refine (rright_any ⟨k, m, d, t, es⟩ v _ HE.out HSM.out).mono ?_); rintro e w7 ⟨rfl, f7⟩; rw [HRT.out])
      | ((with_reducible refine gate_dst (N := 98) rfl ?_); go_must (refine ev_load_row rfl 56 _ rfl g4 rfl 56 _ (b4.no f7) _ Try.underlying56 rfl sizeNd ?_))
      | ((with_reducible refine gate_store (t := 56) (p := 2) rfl ?_); go_must (refine ev_store_row rfl 56 _ _ rfl g2 (ndL k m d t v).toArray rfl rfl 56 _ (b2.no f7) sizeNd rfl (ndL_one _ _ _ _ HE.out.one) ?_); intro w8 f8 b8))
    exact K_u (HQ.out w8 v (((Fr.refl _ W).no f7).trans f8 (fun i h => .inl h)) ((HE.out.no f7).kept f8 hi (fun b hb hh => hb hh)) b8) rfl
  · have hr : rightB ⟨k, m, d, t, es⟩ = false := by simpa using hr
    have hf : doneN ⟨k, m, d, t, es⟩ = (zeroN, 2) := by simp [doneN, hr]
    rw [hf] at HQ
    have HRT := Kp.mk hr
    clear hr hf
    go_wp2_with (first
      | ((with_reducible refine gate_dst (N := 94) rfl ?_); go_must (refine ev_load_row rfl 56 _ rfl g4 rfl 56 _ b4 _ Try.underlying56 rfl sizeNd ?_))
      | (go_at_call 48; go_must (refine (rright_any ⟨k, m, d, t, es⟩ v _ HE.out HSM.out).mono ?_); rintro e w7 ⟨rfl, f7⟩; rw [HRT.out])
      | ((with_reducible refine gate_store (t := 56) (p := 2) rfl ?_); go_must (refine ev_store_row rfl 56 _ _ rfl g2 (ndL 0 0 ⟨#[]⟩ ⟨#[]⟩ (.slice none 0 0)).toArray rfl rfl 56 _ (b2.no f7) sizeNd rfl (ndL_one _ _ _ _ rfl) ?_); intro w8 f8 b8))
    exact K_u (HQ.out w8 (.slice none 0 0) (((Fr.refl _ W).no f7).trans f8 (fun i h => .inl h)) (EntS.nil _) b8) rfl
end Go.Proofs.Ytenlokbfjajbbaa.Nd

/- The document's Parse, walked. Condition: the text's size is bounded, as written out. -/
set_option linter.unusedSimpArgs false
set_option linter.unusedVariables false
namespace Go.Proofs.Ytenlokbfjajbbaa.Nd
open Go Go.RowKit Go.Proofs.YtenlokbfjajbbaaW.PrintWords Go.Proofs.YtenlokbfjajbbaaW.PrintLast Go.Proofs.Ytenlokbfjajbbaa.Ev Go.Proofs.Ytenlokbfjajbbaa.Reg Go.Proofs.Ytenlokbfjajbbaa.Sb

theorem doneN_bad {k m : Int} {d t : ByteArray} {es : List Ent} (h1 : ¬ k = 1) (h2 : ¬ k = 2) (h3 : ¬ k = 3) : doneN ⟨k, m, d, t, es⟩ = (zeroN, 2) := by
  have : rightB ⟨k, m, d, t, es⟩ = false := by simp [rightB, h1, h2, h3]
  simp [doneN, this]
set_option maxHeartbeats 8000000 in
set_option maxRecDepth 100000 in
theorem rparse_any (s : List UInt8) (W : World) (hl : s.length ≤ 1099511627776) :
    Calls Try.prog 40 #[.string (bs s)] W fun e w' => Gives W (parseN s).1 (parseN s).2 e w' := by
  obtain ⟨R, hR⟩ : ∃ R, parseN s = R := ⟨_, rfl⟩
  rw [hR]
  have HR := Kp.mk hR
  clear hR
  have hsz : (bs s).size = s.length := bs_size s
  by_cases h3 : s.length < 3
  · have h3z : ((bs s).size : Int) < 3 := by omega
    have hp : parseN s = (zeroN, 2) := by
      match s, h3 with
      | [], _ => rfl
      | [_], _ => rfl
      | [_, _], _ => rfl
      | _ :: _ :: _ :: _, h => simp at h; omega
    have hRz : R = (zeroN, 2) := by rw [← HR.out, hp]
    subst hRz
    clear hp hsz
    go_enter Try.func40, Try.ntmps40
    go_wp2_with (first
      | ((with_reducible refine gate_dst (N := 2) rfl ?_); go_must (refine ev_alloc rfl 56 rfl _ (ndL 0 0 ⟨#[]⟩ ⟨#[]⟩ (.slice none 0 0)) zeroNd rfl ?_); intro g2 w2 hg2 f2 b2)
      | ((with_reducible refine gate_store (t := 56) (p := 2) rfl ?_); go_must (refine ev_store_row rfl 56 _ _ rfl g2 (ndL 0 0 ⟨#[]⟩ ⟨#[]⟩ (.slice none 0 0)).toArray rfl rfl 56 _ b2 sizeNd rfl (ndL_one _ _ _ _ rfl) ?_); intro wA fA bA))
    refine bodyPost_ret (results_row_tmp rfl _ _ g2 _ _ _ rfl bA Try.underlying56 rfl sizeNd) rfl ⟨_, rfl, EntS.nil _, f2.one fA (.inr hg2)⟩
  · obtain ⟨k, a, b, r, rfl⟩ : ∃ k a b r, s = k :: a :: b :: r := by
      match s, h3 with
      | k :: a :: b :: r, _ => exact ⟨k, a, b, r, rfl⟩
      | [], h => exact absurd (by simp) h
      | [_], h => exact absurd (by simp) h
      | [_, _], h => exact absurd (by simp) h
    have h3z : ¬ ((bs (k :: a :: b :: r)).size : Int) < 3 := by omega
    have hn : (bs (k :: a :: b :: r)).size = r.length + 3 := by rw [bs_size]; rfl
    have hkn := k.toNat_lt
    have han := a.toNat_lt
    have hbn := b.toNat_lt
    have hw0 : ∀ h, IntKind.i64.wrap ((((bs (k :: a :: b :: r))[0]'h).toNat : Nat) : Int) = (k.toNat : Int) := fun _ => wraps_i64 (k.toNat : Int) (by omega) (by omega)
    have hw1 : ∀ h, IntKind.i64.wrap ((((bs (k :: a :: b :: r))[1]'h).toNat : Nat) : Int) = (a.toNat : Int) := fun _ => wraps_i64 (a.toNat : Int) (by omega) (by omega)
    have hw2 : ∀ h, IntKind.i64.wrap ((((bs (k :: a :: b :: r))[2]'h).toNat : Nat) : Int) = (b.toNat : Int) := fun _ => wraps_i64 (b.toNat : Int) (by omega) (by omega)
    have hw3 : IntKind.i64.wrap ((a.toNat : Int) * 256) = (a.toNat : Int) * 256 := wraps_i64 _ (by omega) (by omega)
    have hw4 : IntKind.i64.wrap ((a.toNat : Int) * 256 + (b.toNat : Int)) = (a.toNat : Int) * 256 + (b.toNat : Int) := wraps_i64 _ (by omega) (by omega)
    have hq0 : (0 : Int) < (r.length : Int) + 1 + 1 + 1 := by omega
    have hq1 : (1 : Int) < (r.length : Int) + 1 + 1 + 1 := by omega
    have hq2 : (2 : Int) < (r.length : Int) + 1 + 1 + 1 := by omega
    go_enter Try.func40, Try.ntmps40
    go_wp2_with ((with_reducible refine gate_dst (N := 2) rfl ?_); go_must (refine ev_alloc rfl 56 rfl _ (ndL 0 0 ⟨#[]⟩ ⟨#[]⟩ (.slice none 0 0)) zeroNd rfl ?_); intro g2 w2 hg2 f2 b2)
    refine start_ (n := 14) (S := (fun _ : World => True)) (ds := [13]) #[false, false, false, false, false, false, false, false, false, false, false, false, false, false] (by kernel_rfl) rfl rfl trivial (fun hHeld => ?_)
    refine pure_ (i := 0) (N := some 13) (v := ?_) (a' := ?_) #[true, false, false, false, false, false, false, false, false, false, false, false, false, false] rfl rfl (by kernel_rfl) (fun _ _ _ h => h) (Or.inl ⟨by rfl, ?_⟩) ?_ ?_
    rotate_left
    · intro w'; go_simp; with_reducible rfl
    rotate_left
    · simp only [Act.put, List.setIfInBounds_toArray, List.set_cons_zero, List.set_cons_succ]; rfl
    refine pure_ (i := 1) (N := some 14) (v := ?_) (a' := ?_) #[true, true, false, false, false, false, false, false, false, false, false, false, false, false] rfl rfl (by kernel_rfl) (fun _ _ _ h => h) (Or.inl ⟨by rfl, ?_⟩) ?_ ?_
    rotate_left
    · intro w'; go_simp; with_reducible rfl
    rotate_left
    · simp only [Act.put, List.setIfInBounds_toArray, List.set_cons_zero, List.set_cons_succ]; rfl
    refine pure_ (i := 2) (N := some 15) (v := ?_) (a' := ?_) #[true, true, true, false, false, false, false, false, false, false, false, false, false, false] rfl rfl (by kernel_rfl) (fun _ _ _ h => h) (Or.inl ⟨by rfl, ?_⟩) ?_ ?_
    rotate_left
    · intro w'; go_simp; with_reducible rfl
    rotate_left
    · simp only [Act.put, List.setIfInBounds_toArray, List.set_cons_zero, List.set_cons_succ]; rfl
    refine pure_ (i := 3) (N := some 16) (v := ?_) (a' := ?_) #[true, true, true, true, false, false, false, false, false, false, false, false, false, false] rfl rfl (by kernel_rfl) (fun _ _ _ h => h) (Or.inl ⟨by rfl, ?_⟩) ?_ ?_
    rotate_left
    · intro w'; go_simp; with_reducible rfl
    rotate_left
    · simp only [Act.put, List.setIfInBounds_toArray, List.set_cons_zero, List.set_cons_succ]; rfl
    refine pure_ (i := 4) (N := some 17) (v := ?_) (a' := ?_) #[true, true, true, true, true, false, false, false, false, false, false, false, false, false] rfl rfl (by kernel_rfl) (fun _ _ _ h => h) (Or.inl ⟨by rfl, ?_⟩) ?_ ?_
    rotate_left
    · intro w'; go_simp; with_reducible rfl
    rotate_left
    · simp only [Act.put, List.setIfInBounds_toArray, List.set_cons_zero, List.set_cons_succ]; rfl
    refine pure_ (i := 5) (N := some 18) (v := ?_) (a' := ?_) #[true, true, true, true, true, true, false, false, false, false, false, false, false, false] rfl rfl (by kernel_rfl) (fun _ _ _ h => h) (Or.inl ⟨by rfl, ?_⟩) ?_ ?_
    rotate_left
    · intro w'; go_simp; with_reducible rfl
    rotate_left
    · simp only [Act.put, List.setIfInBounds_toArray, List.set_cons_zero, List.set_cons_succ]; rfl
    refine pure_ (i := 6) (N := some 19) (v := ?_) (a' := ?_) #[true, true, true, true, true, true, true, false, false, false, false, false, false, false] rfl rfl (by kernel_rfl) (fun _ _ _ h => h) (Or.inl ⟨by rfl, ?_⟩) ?_ ?_
    rotate_left
    · intro w'; go_simp; with_reducible rfl
    rotate_left
    · simp only [Act.put, List.setIfInBounds_toArray, List.set_cons_zero, List.set_cons_succ]; rfl
    refine pure_ (i := 7) (N := some 20) (v := ?_) (a' := ?_) #[true, true, true, true, true, true, true, true, false, false, false, false, false, false] rfl rfl (by kernel_rfl) (fun _ _ _ h => h) (Or.inl ⟨by rfl, ?_⟩) ?_ ?_
    rotate_left
    · intro w'; go_simp; with_reducible rfl
    rotate_left
    · simp only [Act.put, List.setIfInBounds_toArray, List.set_cons_zero, List.set_cons_succ]; rfl
    refine pure_ (i := 8) (N := some 21) (v := ?_) (a' := ?_) #[true, true, true, true, true, true, true, true, true, false, false, false, false, false] rfl rfl (by kernel_rfl) (fun _ _ _ h => h) (Or.inl ⟨by rfl, ?_⟩) ?_ ?_
    rotate_left
    · intro w'; go_simp; with_reducible rfl
    rotate_left
    · simp only [Act.put, List.setIfInBounds_toArray, List.set_cons_zero, List.set_cons_succ]; rfl
    refine pure_ (i := 9) (N := some 22) (v := ?_) (a' := ?_) #[true, true, true, true, true, true, true, true, true, true, false, false, false, false] rfl rfl (by kernel_rfl) (fun _ _ _ h => h) (Or.inl ⟨by rfl, ?_⟩) ?_ ?_
    rotate_left
    · intro w'; go_simp; with_reducible rfl
    rotate_left
    · simp only [Act.put, List.setIfInBounds_toArray, List.set_cons_zero, List.set_cons_succ]; rfl
    refine pure_ (i := 10) (N := some 23) (v := ?_) (a' := ?_) #[true, true, true, true, true, true, true, true, true, true, true, false, false, false] rfl rfl (by kernel_rfl) (fun _ _ _ h => h) (Or.inl ⟨by rfl, ?_⟩) ?_ ?_
    rotate_left
    · intro w'; go_simp; with_reducible rfl
    rotate_left
    · simp only [Act.put, List.setIfInBounds_toArray, List.set_cons_zero, List.set_cons_succ]; rfl
    refine pure_ (i := 11) (N := some 24) (v := ?_) (a' := ?_) #[true, true, true, true, true, true, true, true, true, true, true, true, false, false] rfl rfl (by kernel_rfl) (fun _ _ _ h => h) (Or.inl ⟨by rfl, ?_⟩) ?_ ?_
    rotate_left
    · intro w'; go_simp; with_reducible rfl
    rotate_left
    · simp only [Act.put, List.setIfInBounds_toArray, List.set_cons_zero, List.set_cons_succ]; rfl
    refine one_ (i := 12) (N := some 4) #[true, true, true, true, true, true, true, true, true, true, true, true, true, false] rfl rfl (by kernel_rfl) (by decide) (fun K hK => ?_)
    refine step_alloc (N := some 4) rfl rfl 56 rfl _ (ndL 0 0 ⟨#[]⟩ ⟨#[]⟩ (.slice none 0 0)) zeroNd rfl ?_; intro g4 w4 hg4 f4 b4; refine hK.out _ _ trivial (fun hHeld => ?_)
    clear hK K
    refine norm_ (a' := ?_) ?_ ?_
    rotate_left
    · simp only [Act.put, List.setIfInBounds_toArray, List.set_cons_zero, List.set_cons_succ]; rfl
    refine last_ (i := 13) (N := none) #[true, true, true, true, true, true, true, true, true, true, true, true, true, true] rfl rfl (by kernel_rfl) (by decide) (fun K hK => ?_)
    refine step_store_row rfl rfl 56 _ _ rfl g4 (ndL (k.toNat : Int) ((a.toNat : Int) * 256 + (b.toNat : Int)) ⟨#[]⟩ ⟨#[]⟩ (.slice none 0 0)).toArray rfl rfl 56 (ndL 0 0 ⟨#[]⟩ ⟨#[]⟩ (.slice none 0 0)) b4 sizeNd rfl (ndL_one _ _ _ _ rfl) ?_; intro w6 f6 b6; refine hK.out _ _ ?_
    clear hK K
    refine norm_ (a' := ?_) ?_ ?_
    rotate_left
    · simp only [Act.put, List.setIfInBounds_toArray, List.set_cons_zero, List.set_cons_succ]; rfl
    refine done_ (by kernel_rfl) ?_
    have hs3 : ∀ W', (Instr.slice 9 (.string (bs (k :: a :: b :: r))) (some (.int .i64 3)) none none).run Try.prog W' = .ok (.string (bs r)) W' := fun W' => by
      rw [run_slice_string_l W' 9 (bs (k :: a :: b :: r)) Try.underlying9 .i64 _ (by omega) (by omega)]
      rw [show bs (k :: a :: b :: r) = ByteArray.mk (k :: a :: b :: r).toArray from rfl, ByteArray.extract_mk]
      rw [show ((3 : Int)).toNat = 3 from rfl, List.drop_succ_cons, List.drop_succ_cons, List.drop_succ_cons, List.drop_zero, List.take_of_length_le (by show r.length ≤ (k :: a :: b :: r).toArray.size - 3; simp)]
    have q0 := b6.at_ 0 rfl
    have hg4' : w2.heap.size ≤ g4 := by have := hg4; simpa using this
    have hl' : r.length ≤ 1099511627776 := by rw [List.length_cons, List.length_cons, List.length_cons] at hl; omega
    have h24 : g2 < g4 := by have := b2.lt; omega
    have hWg : W.heap.size ≤ g4 := by have := f2.size; omega
    have B6 : Kp (Blk w6 g2 56 (ndL 0 0 ⟨#[]⟩ ⟨#[]⟩ (.slice none 0 0))) := ⟨((Blk.drew b2).no f4).one f6 (by omega)⟩
    have F6 : Kp (Fr No W w6) := ⟨(f2.drew.no f4).one f6 (.inr hWg)⟩
    by_cases hk1 : k.toNat = 1
    · have hk1z : (k.toNat : Int) = 1 := by omega
      have HFIN : Kp (doneN ⟨(k.toNat : Int), ((a.toNat : Int) * 256 + (b.toNat : Int)), bs r, ⟨#[]⟩, []⟩ = R) := ⟨by
        rw [← HR.out]
        simp only [parseN, if_pos hk1, hk1z]⟩
      go_upto_block 0 with ((with_reducible refine gate_store (t := 9) (p := 30) rfl ?_); go_must (refine ev_store rfl 9 _ _ rfl g4 2 (.string (bs r)) rfl rfl rfl 56 _ b6 (by simp) sizeStr ?_); intro wd fd bd; have q1 := bd.at_ 0 rfl)
      have B2' : Kp (Blk wd g2 56 (ndL 0 0 ⟨#[]⟩ ⟨#[]⟩ (.slice none 0 0))) := ⟨B6.out.one fd (by omega)⟩
      have FW' : Kp (Fr No W wd) := ⟨F6.out.one fd (.inr hWg)⟩
      have bd' := Kp.mk bd
      clear q0 q1 b4 b6 bd b2
      refine wp_u (fun u => rparse_no g2 g4 (k.toNat : Int) (by omega) wd u (bd'.out.at_ 0 rfl) _ ?_) rfl
      intro u
      simp only [Exit.then]
      refine ‹∀ (a : Act) (w : World), Code.wp Try.prog _ _ a w → _› _ _ ?_
      refine wp_u (fun u => rparse_tail g2 g4 ⟨(k.toNat : Int), ((a.toNat : Int) * 256 + (b.toNat : Int)), (bs r), ⟨#[]⟩, []⟩ (.slice none 0 0) wd u (EntS.nil _) (fun e he => by cases he) (fun b o n c e => by cases e) bd'.out B2'.out _ ?_) rfl
      intro W2 v2 f9 e9 b9 u
      rw [HFIN.out] at e9 b9 ⊢
      exact bodyPost_ret (results_row_tmp rfl _ _ g2 _ _ _ rfl b9 Try.underlying56 rfl sizeNd) rfl ⟨v2, rfl, e9, FW'.out.one f9 (.inr hg2)⟩
    · by_cases hk3 : k.toNat = 3
      · have hk3z : (k.toNat : Int) = 3 := by omega
        have HFIN : Kp (doneN ⟨(k.toNat : Int), ((a.toNat : Int) * 256 + (b.toNat : Int)), ⟨#[]⟩, bs r, []⟩ = R) := ⟨by
          rw [← HR.out]
          simp only [parseN, if_neg hk1, if_pos hk3, hk3z]⟩
        go_upto_block 0 with ((with_reducible refine gate_store (t := 9) (p := 36) rfl ?_); go_must (refine ev_store rfl 9 _ _ rfl g4 3 (.string (bs r)) rfl rfl rfl 56 _ b6 (by simp) sizeStr ?_); intro wd fd bd; have q1 := bd.at_ 0 rfl)
        have B2' : Kp (Blk wd g2 56 (ndL 0 0 ⟨#[]⟩ ⟨#[]⟩ (.slice none 0 0))) := ⟨B6.out.one fd (by omega)⟩
        have FW' : Kp (Fr No W wd) := ⟨F6.out.one fd (.inr hWg)⟩
        have bd' := Kp.mk bd
        clear q0 q1 b4 b6 bd b2
        refine wp_u (fun u => rparse_no g2 g4 (k.toNat : Int) (by omega) wd u (bd'.out.at_ 0 rfl) _ ?_) rfl
        intro u
        simp only [Exit.then]
        refine ‹∀ (a : Act) (w : World), Code.wp Try.prog _ _ a w → _› _ _ ?_
        refine wp_u (fun u => rparse_tail g2 g4 ⟨(k.toNat : Int), ((a.toNat : Int) * 256 + (b.toNat : Int)), ⟨#[]⟩, (bs r), []⟩ (.slice none 0 0) wd u (EntS.nil _) (fun e he => by cases he) (fun b o n c e => by cases e) bd'.out B2'.out _ ?_) rfl
        intro W2 v2 f9 e9 b9 u
        rw [HFIN.out] at e9 b9 ⊢
        exact bodyPost_ret (results_row_tmp rfl _ _ g2 _ _ _ rfl b9 Try.underlying56 rfl sizeNd) rfl ⟨v2, rfl, e9, FW'.out.one f9 (.inr hg2)⟩
      · have hk1z : ¬ (k.toNat : Int) = 1 := by omega
        have hk3z : ¬ (k.toNat : Int) = 3 := by omega
        have b6' := Kp.mk b6
        by_cases hk2 : k.toNat = 2
        · have hk2z : (k.toNat : Int) = 2 := by omega
          have HFIN : Kp (∀ es, parseE (r.length + 1) r = some es → doneN ⟨2, ((a.toNat : Int) * 256 + (b.toNat : Int)), ⟨#[]⟩, ⟨#[]⟩, es⟩ = R) := ⟨fun es he => by
            rw [← HR.out]
            simp only [parseN, if_neg hk1, if_neg hk3, he, hk2z]⟩
          have HE : Kp (parseE (r.length + 1) r = none → R = (zeroN, 2)) := ⟨fun he => by
            rw [← HR.out]
            simp only [parseN, if_neg hk1, if_neg hk3, he]⟩
          go_upto_block 0 with fail
          have b7 := Kp.mk (hk2z ▸ b6'.out)
          clear q0 b4 b6 b2 b6'
          refine wp_u (fun u => rparse_loop g2 g4 ((a.toNat : Int) * 256 + (b.toNat : Int)) (k :: a :: b :: r) r _ u hl rfl (by simp) (by omega) b7.out B6.out _ (fun _ _ _ _ _ h => h) ?_ ?_) rfl
          · intro W' es v hes F O B u
            have hN := HFIN.out es hes
            have hlt6 := B6.out.lt
            have hin : In v (fun b => b ≠ g2) := fun b o n c e => by
              have := own_new_base O b (by rw [e]; rfl)
              omega
            simp only [Exit.then]
            refine ‹∀ (a : Act) (w : World), Code.wp Try.prog _ _ a w → _› _ _ ?_
            refine wp_u (fun u => rparse_tail g2 g4 ⟨2, ((a.toNat : Int) * 256 + (b.toNat : Int)), ⟨#[]⟩, ⟨#[]⟩, es⟩ v W' u (ents_of_own O) (parse_small _ _ _ hes) hin B (B6.out.one F (by omega)) _ ?_) rfl
            intro W2 v2 f9 e9 b9 u
            rw [hN] at e9 b9 ⊢
            exact bodyPost_ret (results_row_tmp rfl _ _ g2 _ _ _ rfl b9 Try.underlying56 rfl sizeNd) rfl ⟨v2, rfl, e9, (F6.out.one F (.inr hWg)).one f9 (.inr hg2)⟩
          · intro W' W2 hes F f9 b9 u
            have hz := HE.out hes
            subst hz
            simp only [Exit.then]
            exact bodyPost_ret (results_row_tmp rfl _ _ g2 _ _ _ rfl b9 Try.underlying56 rfl sizeNd) rfl ⟨_, rfl, EntS.nil _, (F6.out.one F (.inr hWg)).one f9 (.inr hg2)⟩
        · have hk2z : ¬ (k.toNat : Int) = 2 := by omega
          have HFIN : Kp (doneN ⟨(k.toNat : Int), ((a.toNat : Int) * 256 + (b.toNat : Int)), ⟨#[]⟩, ⟨#[]⟩, []⟩ = R) := ⟨by
            rw [← HR.out, doneN_bad hk1z hk2z hk3z]
            simp only [parseN, if_neg hk1, if_neg hk3]
            cases parseE (r.length + 1) r with
            | none => rfl
            | some es => simp only [doneN_bad hk1z hk2z hk3z]⟩
          go_upto_block 0 with fail
          clear q0 b4 b6 b2
          refine wp_u (fun u => rparse_no g2 g4 (k.toNat : Int) hk2z w6 u (b6'.out.at_ 0 rfl) _ ?_) rfl
          intro u
          simp only [Exit.then]
          refine ‹∀ (a : Act) (w : World), Code.wp Try.prog _ _ a w → _› _ _ ?_
          refine wp_u (fun u => rparse_tail g2 g4 ⟨(k.toNat : Int), ((a.toNat : Int) * 256 + (b.toNat : Int)), ⟨#[]⟩, ⟨#[]⟩, []⟩ (.slice none 0 0) w6 u (EntS.nil _) (fun e he => by cases he) (fun b o n c e => by cases e) b6'.out B6.out _ ?_) rfl
          intro W2 v2 f9 e9 b9 u
          rw [HFIN.out] at e9 b9 ⊢
          exact bodyPost_ret (results_row_tmp rfl _ _ g2 _ _ _ rfl b9 Try.underlying56 rfl sizeNd) rfl ⟨v2, rfl, e9, F6.out.one f9 (.inr hg2)⟩
end Go.Proofs.Ytenlokbfjajbbaa.Nd

/- The law NodeTells: it says yes. No conditions. -/
set_option linter.unusedSimpArgs false
set_option linter.unusedVariables false
namespace Go.Proofs.Ytenlokbfjajbbaa.Nd
open Go Go.RowKit Go.Proofs.YtenlokbfjajbbaaW.PrintWords Go.Proofs.Ytenlokbfjajbbaa.Ev Go.Proofs.Ytenlokbfjajbbaa.Reg Go.Proofs.Ytenlokbfjajbbaa.Sb

/-- Nodes that lie in memory. -/
structure Hd (w : World) (L : List (Nat × Nd × Value)) : Prop where
  out : ∀ g N v, (g, N, v) ∈ L → Blk w g 56 (ndL N.kind N.mode N.data N.target v) ∧ EntS w v N.ents
theorem Hd.nil (w : World) : Hd w [] := ⟨fun _ _ _ h => by cases h⟩
theorem Hd.no {w w' : World} {L : List (Nat × Nd × Value)} (h : Hd w L) (f : Fr No w w') : Hd w' L := ⟨fun g N v hm => ⟨(h.out g N v hm).1.no f, (h.out g N v hm).2.no f⟩⟩
theorem Hd.add {w : World} {L : List (Nat × Nd × Value)} {g : Nat} {N : Nd} {v : Value} (h : Hd w L) (b : Blk w g 56 (ndL N.kind N.mode N.data N.target v)) (e : EntS w v N.ents) : Hd w ((g, N, v) :: L) := ⟨fun g' N' v' hm => by
  rcases List.mem_cons.1 hm with h1 | h1
  · simp only [Prod.mk.injEq] at h1
    obtain ⟨rfl, rfl, rfl⟩ := h1
    exact ⟨b, e⟩
  · exact h.out g' N' v' h1⟩

set_option maxHeartbeats 16000000 in
set_option maxRecDepth 100000 in
theorem tells_any (M N : Nd) (x y : Value) (s n : ByteArray) (ino : Int) (W : World) (hM : EntS W x M.ents) (hN : EntS W y N.ents) :
    Calls Try.prog 7 #[ndV M x, ndV N y, .string s, .string n, .int .i64 ino] W fun e w' => e = .returned (.bool true) ∧ Fr No W w' := by
  have cF : ∀ M b, fewB M = b → ∀ x W, EntS W x M.ents → Calls Try.prog 36 #[ndV M x] W fun e w' => e = .returned (.bool b) ∧ Fr No W w' := fun M b hb x W h => by
    have h := few_any M x W h
    rw [hb] at h
    exact h
  cases hm : fewB M with
  | false =>
    have CF1 := Kp.mk (cF M _ hm)
    clear cF hm
    go_enter Try.func7, Try.ntmps7
    go_wp2_with (first | ((with_reducible refine gate_dst (N := 5) rfl ?_); go_must (refine ev_box rfl 56 _ rfl _ rfl (ndL M.kind M.mode M.data M.target x) rfl ?_); intro g5 w1 hg5 f1 b5; have H := (Hd.nil w1).add b5 (hM.no f1); replace hN := hN.no f1) | ((with_reducible refine gate_dst (N := 6) rfl ?_); go_must (refine ev_box rfl 56 _ rfl _ rfl (ndL N.kind N.mode N.data N.target y) rfl ?_); intro g6 w2 hg6 f2 b6; replace H := (H.no f2).add b6 (hN.no f2); have F := f1.no f2; clear b5 hN hM) | (go_at_call 35; go_must (refine (awake_any _).mono ?_); rintro e w3 ⟨rfl, f3⟩; replace H := H.no f3; replace F := F.no f3; have c0 := (H.out g5 M x (by simp)).1.at_ 0 rfl; have c1 := (H.out g5 M x (by simp)).1.at_ 1 rfl; have c2 := (H.out g5 M x (by simp)).1.at_ 2 rfl; have c3 := (H.out g5 M x (by simp)).1.at_ 3 rfl; have c4 := (H.out g5 M x (by simp)).1.at_ 4 rfl; have d0 := (H.out g6 N y (by simp)).1.at_ 0 rfl; have d1 := (H.out g6 N y (by simp)).1.at_ 1 rfl; have d2 := (H.out g6 N y (by simp)).1.at_ 2 rfl; have d3 := (H.out g6 N y (by simp)).1.at_ 3 rfl; have d4 := (H.out g6 N y (by simp)).1.at_ 4 rfl) | (go_at_call 36; refine (CF1.out _ _ (H.out g5 M x (by simp)).2).mono ?_; rintro e w4 ⟨rfl, f4⟩; replace H := H.no f4; replace F := F.no f4; clear c0 c1 c2 c3 c4 d0 d1 d2 d3 d4; have c0 := (H.out g5 M x (by simp)).1.at_ 0 rfl; have c1 := (H.out g5 M x (by simp)).1.at_ 1 rfl; have c2 := (H.out g5 M x (by simp)).1.at_ 2 rfl; have c3 := (H.out g5 M x (by simp)).1.at_ 3 rfl; have c4 := (H.out g5 M x (by simp)).1.at_ 4 rfl; have d0 := (H.out g6 N y (by simp)).1.at_ 0 rfl; have d1 := (H.out g6 N y (by simp)).1.at_ 1 rfl; have d2 := (H.out g6 N y (by simp)).1.at_ 2 rfl; have d3 := (H.out g6 N y (by simp)).1.at_ 3 rfl; have d4 := (H.out g6 N y (by simp)).1.at_ 4 rfl; clear CF1))
    go_ret
    exact ⟨rfl, F⟩
  | true =>
    have CF1 := Kp.mk (cF M _ hm)
    obtain ⟨k1, k2, k3, k4⟩ := few_parts hm
    clear hm
    cases hn : fewB N with
    | false =>
      have CF2 := Kp.mk (cF N _ hn)
      clear cF hn
      go_enter Try.func7, Try.ntmps7
      go_wp2_with (first | ((with_reducible refine gate_dst (N := 5) rfl ?_); go_must (refine ev_box rfl 56 _ rfl _ rfl (ndL M.kind M.mode M.data M.target x) rfl ?_); intro g5 w1 hg5 f1 b5; have H := (Hd.nil w1).add b5 (hM.no f1); replace hN := hN.no f1) | ((with_reducible refine gate_dst (N := 6) rfl ?_); go_must (refine ev_box rfl 56 _ rfl _ rfl (ndL N.kind N.mode N.data N.target y) rfl ?_); intro g6 w2 hg6 f2 b6; replace H := (H.no f2).add b6 (hN.no f2); have F := f1.no f2; clear b5 hN hM) | (go_at_call 35; go_must (refine (awake_any _).mono ?_); rintro e w3 ⟨rfl, f3⟩; replace H := H.no f3; replace F := F.no f3; have c0 := (H.out g5 M x (by simp)).1.at_ 0 rfl; have c1 := (H.out g5 M x (by simp)).1.at_ 1 rfl; have c2 := (H.out g5 M x (by simp)).1.at_ 2 rfl; have c3 := (H.out g5 M x (by simp)).1.at_ 3 rfl; have c4 := (H.out g5 M x (by simp)).1.at_ 4 rfl; have d0 := (H.out g6 N y (by simp)).1.at_ 0 rfl; have d1 := (H.out g6 N y (by simp)).1.at_ 1 rfl; have d2 := (H.out g6 N y (by simp)).1.at_ 2 rfl; have d3 := (H.out g6 N y (by simp)).1.at_ 3 rfl; have d4 := (H.out g6 N y (by simp)).1.at_ 4 rfl) | (go_at_call 36; refine (CF1.out _ _ (H.out g5 M x (by simp)).2).mono ?_; rintro e w4 ⟨rfl, f4⟩; replace H := H.no f4; replace F := F.no f4; clear c0 c1 c2 c3 c4 d0 d1 d2 d3 d4; have c0 := (H.out g5 M x (by simp)).1.at_ 0 rfl; have c1 := (H.out g5 M x (by simp)).1.at_ 1 rfl; have c2 := (H.out g5 M x (by simp)).1.at_ 2 rfl; have c3 := (H.out g5 M x (by simp)).1.at_ 3 rfl; have c4 := (H.out g5 M x (by simp)).1.at_ 4 rfl; have d0 := (H.out g6 N y (by simp)).1.at_ 0 rfl; have d1 := (H.out g6 N y (by simp)).1.at_ 1 rfl; have d2 := (H.out g6 N y (by simp)).1.at_ 2 rfl; have d3 := (H.out g6 N y (by simp)).1.at_ 3 rfl; have d4 := (H.out g6 N y (by simp)).1.at_ 4 rfl; clear CF1) | (go_at_call 36; go_must (refine (CF2.out _ _ (H.out g6 N y (by simp)).2).mono ?_); rintro e w5 ⟨rfl, f5⟩; replace H := H.no f5; replace F := F.no f5; clear c0 c1 c2 c3 c4 d0 d1 d2 d3 d4; have c0 := (H.out g5 M x (by simp)).1.at_ 0 rfl; have c1 := (H.out g5 M x (by simp)).1.at_ 1 rfl; have c2 := (H.out g5 M x (by simp)).1.at_ 2 rfl; have c3 := (H.out g5 M x (by simp)).1.at_ 3 rfl; have c4 := (H.out g5 M x (by simp)).1.at_ 4 rfl; have d0 := (H.out g6 N y (by simp)).1.at_ 0 rfl; have d1 := (H.out g6 N y (by simp)).1.at_ 1 rfl; have d2 := (H.out g6 N y (by simp)).1.at_ 2 rfl; have d3 := (H.out g6 N y (by simp)).1.at_ 3 rfl; have d4 := (H.out g6 N y (by simp)).1.at_ 4 rfl; clear CF2))
      go_ret
      exact ⟨rfl, F⟩
    | true =>
      have CF2 := Kp.mk (cF N _ hn)
      clear cF hn
      by_cases hl : s.size ≤ 6000
      · have hlz : ¬ (6000 : Int) < (s.size : Int) := by omega
        by_cases hl2 : n.size ≤ 100
        · have hlz2 : ¬ (100 : Int) < (n.size : Int) := by omega
          have hsb : s = bs s.data.toList := rfl
          have hll : s.data.toList.length ≤ 1099511627776 := by rw [Array.length_toList]; have : s.data.size = s.size := rfl; omega
          obtain ⟨Z, cz, hZ⟩ : ∃ Z cz, parseN s.data.toList = (Z, cz) := ⟨_, _, rfl⟩
          obtain ⟨Y, cy, hY⟩ : ∃ Y cy, withN M n ino = (Y, cy) := ⟨_, _, rfl⟩
          obtain ⟨O, co, hO⟩ : ∃ O co, withoutN M n = (O, co) := ⟨_, _, rfl⟩
          obtain ⟨R1, R2, hR⟩ : ∃ R1 R2, printN M = (R1, R2) := ⟨_, _, rfl⟩
          obtain ⟨i1, i2, hI⟩ : ∃ i1 i2, findN M n = (i1, i2) := ⟨_, _, rfl⟩
          obtain ⟨rb, hrb⟩ : ∃ rb, rightB M = rb := ⟨_, rfl⟩
          obtain ⟨sb, hsb2⟩ : ∃ sb, sameB M N = sb := ⟨_, rfl⟩
          have CA1 : Kp (∀ W, Calls Try.prog 39 #[.string s] W fun e w' => Gives W Z cz e w') := ⟨fun W => by have h := parse_any s.data.toList W hll; rw [hZ] at h; exact h⟩
          have CA2 : Kp (∀ W, Calls Try.prog 40 #[.string s] W fun e w' => Gives W Z cz e w') := ⟨fun W => by have h := rparse_any s.data.toList W hll; rw [hZ] at h; exact h⟩
          have CP1 : Kp (∀ W, EntS W x M.ents → Calls Try.prog 37 #[ndV M x] W fun e w' => e = .returned (.tuple #[.string R1, .int .i64 R2]) ∧ Fr No W w') := ⟨fun W h => by have h := print_any M x W h k2 (by omega) (by omega); rw [hR] at h; exact h⟩
          have CP2 : Kp (∀ W, EntS W x M.ents → Calls Try.prog 38 #[ndV M x] W fun e w' => e = .returned (.tuple #[.string R1, .int .i64 R2]) ∧ Fr No W w') := ⟨fun W h => by have h := rprint_any M x W h k2; rw [hR] at h; exact h⟩
          have CI1 : Kp (∀ W, EntS W x M.ents → Calls Try.prog 41 #[ndV M x, .string n] W fun e w' => e = .returned (.tuple #[.int .i64 i1, .bool i2]) ∧ Fr No W w') := ⟨fun W h => by have h := find_any M x n W h; rw [hI] at h; exact h⟩
          have CI2 : Kp (∀ W, EntS W x M.ents → Calls Try.prog 42 #[ndV M x, .string n] W fun e w' => e = .returned (.tuple #[.int .i64 i1, .bool i2]) ∧ Fr No W w') := ⟨fun W h => by have h := rfind_any M x n W h; rw [hI] at h; exact h⟩
          have CW1 : Kp (∀ W, EntS W x M.ents → Calls Try.prog 43 #[ndV M x, .string n, .int .i64 ino] W fun e w' => Gives W Y cy e w') := ⟨fun W h => by have h := with_any M x n ino W h (by omega) (by omega); rw [hY] at h; exact h⟩
          have CW2 : Kp (∀ W, EntS W x M.ents → Calls Try.prog 44 #[ndV M x, .string n, .int .i64 ino] W fun e w' => Gives W Y cy e w') := ⟨fun W h => by have h := rwith_any M x n ino W h (by omega); rw [hY] at h; exact h⟩
          have CO1 : Kp (∀ W, EntS W x M.ents → Calls Try.prog 45 #[ndV M x, .string n] W fun e w' => Gives W O co e w') := ⟨fun W h => by have h := without_any M x n W h (by omega); rw [hO] at h; exact h⟩
          have CO2 : Kp (∀ W, EntS W x M.ents → Calls Try.prog 46 #[ndV M x, .string n] W fun e w' => Gives W O co e w') := ⟨fun W h => by have h := rwithout_any M x n W h (by omega); rw [hO] at h; exact h⟩
          have CR1 : Kp (∀ W, EntS W x M.ents → Calls Try.prog 47 #[ndV M x] W fun e w' => e = .returned (.bool rb) ∧ Fr No W w') := ⟨fun W h => by have h := right_any M x W h k2; rw [hrb] at h; exact h⟩
          have CR2 : Kp (∀ W, EntS W x M.ents → Calls Try.prog 48 #[ndV M x] W fun e w' => e = .returned (.bool rb) ∧ Fr No W w') := ⟨fun W h => by have h := rright_any M x W h k2; rw [hrb] at h; exact h⟩
          have CS1 : Kp (∀ W, EntS W x M.ents → EntS W y N.ents → Calls Try.prog 49 #[ndV M x, ndV N y] W fun e w' => e = .returned (.bool sb) ∧ Fr No W w') := ⟨fun W h1 h2 => by have h := same_any M N x y W h1 h2; rw [hsb2] at h; exact h⟩
          have CS2 : Kp (∀ W, EntS W x M.ents → EntS W y N.ents → Calls Try.prog 50 #[ndV M x, ndV N y] W fun e w' => e = .returned (.bool sb) ∧ Fr No W w') := ⟨fun W h1 h2 => by have h := rsame_any M N x y W h1 h2; rw [hsb2] at h; exact h⟩
          have CS3 : Kp (∀ Z u v W, EntS W u Z.ents → EntS W v Z.ents → Calls Try.prog 50 #[ndV Z u, ndV Z v] W fun e w' => e = .returned (.bool true) ∧ Fr No W w') := ⟨fun Z u v W h1 h2 => by have h := rsame_any Z Z u v W h1 h2; rw [same_refl] at h; exact h⟩
          clear hZ hY hO hR hI hrb hsb2 hsb hll k1 k2 k3 k4
          go_enter Try.func7, Try.ntmps7
          go_wp2_with (first | ((with_reducible refine gate_dst (N := 5) rfl ?_); go_must (refine ev_box rfl 56 _ rfl _ rfl (ndL M.kind M.mode M.data M.target x) rfl ?_); intro g5 w1 hg5 f1 b5; have H := (Hd.nil w1).add b5 (hM.no f1); replace hN := hN.no f1) | ((with_reducible refine gate_dst (N := 6) rfl ?_); go_must (refine ev_box rfl 56 _ rfl _ rfl (ndL N.kind N.mode N.data N.target y) rfl ?_); intro g6 w2 hg6 f2 b6; replace H := (H.no f2).add b6 (hN.no f2); have F := f1.no f2; clear b5 hN hM) | (go_at_call 35; go_must (refine (awake_any _).mono ?_); rintro e w3 ⟨rfl, f3⟩; replace H := H.no f3; replace F := F.no f3; have c0 := (H.out g5 M x (by simp)).1.at_ 0 rfl; have c1 := (H.out g5 M x (by simp)).1.at_ 1 rfl; have c2 := (H.out g5 M x (by simp)).1.at_ 2 rfl; have c3 := (H.out g5 M x (by simp)).1.at_ 3 rfl; have c4 := (H.out g5 M x (by simp)).1.at_ 4 rfl; have d0 := (H.out g6 N y (by simp)).1.at_ 0 rfl; have d1 := (H.out g6 N y (by simp)).1.at_ 1 rfl; have d2 := (H.out g6 N y (by simp)).1.at_ 2 rfl; have d3 := (H.out g6 N y (by simp)).1.at_ 3 rfl; have d4 := (H.out g6 N y (by simp)).1.at_ 4 rfl) | (go_at_call 36; refine (CF1.out _ _ (H.out g5 M x (by simp)).2).mono ?_; rintro e w4 ⟨rfl, f4⟩; replace H := H.no f4; replace F := F.no f4; clear c0 c1 c2 c3 c4 d0 d1 d2 d3 d4; have c0 := (H.out g5 M x (by simp)).1.at_ 0 rfl; have c1 := (H.out g5 M x (by simp)).1.at_ 1 rfl; have c2 := (H.out g5 M x (by simp)).1.at_ 2 rfl; have c3 := (H.out g5 M x (by simp)).1.at_ 3 rfl; have c4 := (H.out g5 M x (by simp)).1.at_ 4 rfl; have d0 := (H.out g6 N y (by simp)).1.at_ 0 rfl; have d1 := (H.out g6 N y (by simp)).1.at_ 1 rfl; have d2 := (H.out g6 N y (by simp)).1.at_ 2 rfl; have d3 := (H.out g6 N y (by simp)).1.at_ 3 rfl; have d4 := (H.out g6 N y (by simp)).1.at_ 4 rfl; clear CF1) | (go_at_call 36; go_must (refine (CF2.out _ _ (H.out g6 N y (by simp)).2).mono ?_); rintro e w5 ⟨rfl, f5⟩; replace H := H.no f5; replace F := F.no f5; clear c0 c1 c2 c3 c4 d0 d1 d2 d3 d4; have c0 := (H.out g5 M x (by simp)).1.at_ 0 rfl; have c1 := (H.out g5 M x (by simp)).1.at_ 1 rfl; have c2 := (H.out g5 M x (by simp)).1.at_ 2 rfl; have c3 := (H.out g5 M x (by simp)).1.at_ 3 rfl; have c4 := (H.out g5 M x (by simp)).1.at_ 4 rfl; have d0 := (H.out g6 N y (by simp)).1.at_ 0 rfl; have d1 := (H.out g6 N y (by simp)).1.at_ 1 rfl; have d2 := (H.out g6 N y (by simp)).1.at_ 2 rfl; have d3 := (H.out g6 N y (by simp)).1.at_ 3 rfl; have d4 := (H.out g6 N y (by simp)).1.at_ 4 rfl; clear CF2) | ((with_reducible refine gate_dst (N := 52) rfl ?_); go_must (refine ev_load_row rfl 56 _ rfl g5 rfl 56 _ (H.out g5 M x (by simp)).1 _ Try.underlying56 rfl sizeNd ?_)) | (go_at_call 37; go_must (refine (CP1.out _ (H.out g5 M x (by simp)).2).mono ?_); rintro e wP1 ⟨rfl, fP1⟩; replace H := H.no fP1; replace F := F.no fP1) | ((with_reducible refine gate_dst (N := 57) rfl ?_); go_must (refine ev_load_row rfl 56 _ rfl g5 rfl 56 _ (H.out g5 M x (by simp)).1 _ Try.underlying56 rfl sizeNd ?_)) | (go_at_call 38; go_must (refine (CP2.out _ (H.out g5 M x (by simp)).2).mono ?_); rintro e wP2 ⟨rfl, fP2⟩; replace H := H.no fP2; replace F := F.no fP2) | (go_at_call 39; go_must (refine (CA1.out _).mono ?_); rintro e wA1 ⟨v15, rfl, e15, fA1⟩; replace H := H.no fA1; replace F := F.no fA1) | ((with_reducible refine gate_dst (N := 15) rfl ?_); go_must (refine ev_alloc rfl 56 rfl _ (ndL 0 0 ⟨#[]⟩ ⟨#[]⟩ (.slice none 0 0)) zeroNd rfl ?_); intro g15 x15 hg15 h15 b15) | ((with_reducible refine gate_store (t := 56) (p := 15) rfl ?_); go_must (refine ev_store_row rfl 56 _ _ rfl g15 (ndL Z.kind Z.mode Z.data Z.target v15).toArray rfl rfl 56 _ b15 sizeNd rfl (ndL_one _ _ _ _ e15.one) ?_); intro y15 s15 B15; have F15 := h15.one s15 (.inr hg15); replace H := (H.no F15).add B15 (e15.no F15); replace F := F.no F15; clear e15 b15 B15 h15 s15 F15) | (go_at_call 40; go_must (refine (CA2.out _).mono ?_); rintro e wA2 ⟨v17, rfl, e17, fA2⟩; replace H := H.no fA2; replace F := F.no fA2) | ((with_reducible refine gate_dst (N := 17) rfl ?_); go_must (refine ev_alloc rfl 56 rfl _ (ndL 0 0 ⟨#[]⟩ ⟨#[]⟩ (.slice none 0 0)) zeroNd rfl ?_); intro g17 x17 hg17 h17 b17) | ((with_reducible refine gate_store (t := 56) (p := 17) rfl ?_); go_must (refine ev_store_row rfl 56 _ _ rfl g17 (ndL Z.kind Z.mode Z.data Z.target v17).toArray rfl rfl 56 _ b17 sizeNd rfl (ndL_one _ _ _ _ e17.one) ?_); intro y17 s17 B17; have F17 := h17.one s17 (.inr hg17); replace H := (H.no F17).add B17 (e17.no F17); replace F := F.no F17; clear e17 b17 B17 h17 s17 F17) | ((with_reducible refine gate_dst (N := 72) rfl ?_); go_must (refine ev_load_row rfl 56 _ rfl g5 rfl 56 _ (H.out g5 M x (by simp)).1 _ Try.underlying56 rfl sizeNd ?_)) | (go_at_call 41; go_must (refine (CI1.out _ (H.out g5 M x (by simp)).2).mono ?_); rintro e wI1 ⟨rfl, fI1⟩; replace H := H.no fI1; replace F := F.no fI1) | ((with_reducible refine gate_dst (N := 78) rfl ?_); go_must (refine ev_load_row rfl 56 _ rfl g5 rfl 56 _ (H.out g5 M x (by simp)).1 _ Try.underlying56 rfl sizeNd ?_)) | (go_at_call 42; go_must (refine (CI2.out _ (H.out g5 M x (by simp)).2).mono ?_); rintro e wI2 ⟨rfl, fI2⟩; replace H := H.no fI2; replace F := F.no fI2) | ((with_reducible refine gate_dst (N := 84) rfl ?_); go_must (refine ev_load_row rfl 56 _ rfl g5 rfl 56 _ (H.out g5 M x (by simp)).1 _ Try.underlying56 rfl sizeNd ?_)) | (go_at_call 43; go_must (refine (CW1.out _ (H.out g5 M x (by simp)).2).mono ?_); rintro e wW1 ⟨v23, rfl, e23, fW1⟩; replace H := H.no fW1; replace F := F.no fW1) | ((with_reducible refine gate_dst (N := 23) rfl ?_); go_must (refine ev_alloc rfl 56 rfl _ (ndL 0 0 ⟨#[]⟩ ⟨#[]⟩ (.slice none 0 0)) zeroNd rfl ?_); intro g23 x23 hg23 h23 b23) | ((with_reducible refine gate_store (t := 56) (p := 23) rfl ?_); go_must (refine ev_store_row rfl 56 _ _ rfl g23 (ndL Y.kind Y.mode Y.data Y.target v23).toArray rfl rfl 56 _ b23 sizeNd rfl (ndL_one _ _ _ _ e23.one) ?_); intro y23 s23 B23; have F23 := h23.one s23 (.inr hg23); replace H := (H.no F23).add B23 (e23.no F23); replace F := F.no F23; clear e23 b23 B23 h23 s23 F23) | ((with_reducible refine gate_dst (N := 91) rfl ?_); go_must (refine ev_load_row rfl 56 _ rfl g5 rfl 56 _ (H.out g5 M x (by simp)).1 _ Try.underlying56 rfl sizeNd ?_)) | (go_at_call 44; go_must (refine (CW2.out _ (H.out g5 M x (by simp)).2).mono ?_); rintro e wW2 ⟨v25, rfl, e25, fW2⟩; replace H := H.no fW2; replace F := F.no fW2) | ((with_reducible refine gate_dst (N := 25) rfl ?_); go_must (refine ev_alloc rfl 56 rfl _ (ndL 0 0 ⟨#[]⟩ ⟨#[]⟩ (.slice none 0 0)) zeroNd rfl ?_); intro g25 x25 hg25 h25 b25) | ((with_reducible refine gate_store (t := 56) (p := 25) rfl ?_); go_must (refine ev_store_row rfl 56 _ _ rfl g25 (ndL Y.kind Y.mode Y.data Y.target v25).toArray rfl rfl 56 _ b25 sizeNd rfl (ndL_one _ _ _ _ e25.one) ?_); intro y25 s25 B25; have F25 := h25.one s25 (.inr hg25); replace H := (H.no F25).add B25 (e25.no F25); replace F := F.no F25; clear e25 b25 B25 h25 s25 F25) | ((with_reducible refine gate_dst (N := 98) rfl ?_); go_must (refine ev_load_row rfl 56 _ rfl g5 rfl 56 _ (H.out g5 M x (by simp)).1 _ Try.underlying56 rfl sizeNd ?_)) | (go_at_call 45; go_must (refine (CO1.out _ (H.out g5 M x (by simp)).2).mono ?_); rintro e wO1 ⟨v27, rfl, e27, fO1⟩; replace H := H.no fO1; replace F := F.no fO1) | ((with_reducible refine gate_dst (N := 27) rfl ?_); go_must (refine ev_alloc rfl 56 rfl _ (ndL 0 0 ⟨#[]⟩ ⟨#[]⟩ (.slice none 0 0)) zeroNd rfl ?_); intro g27 x27 hg27 h27 b27) | ((with_reducible refine gate_store (t := 56) (p := 27) rfl ?_); go_must (refine ev_store_row rfl 56 _ _ rfl g27 (ndL O.kind O.mode O.data O.target v27).toArray rfl rfl 56 _ b27 sizeNd rfl (ndL_one _ _ _ _ e27.one) ?_); intro y27 s27 B27; have F27 := h27.one s27 (.inr hg27); replace H := (H.no F27).add B27 (e27.no F27); replace F := F.no F27; clear e27 b27 B27 h27 s27 F27) | ((with_reducible refine gate_dst (N := 104) rfl ?_); go_must (refine ev_load_row rfl 56 _ rfl g5 rfl 56 _ (H.out g5 M x (by simp)).1 _ Try.underlying56 rfl sizeNd ?_)) | (go_at_call 46; go_must (refine (CO2.out _ (H.out g5 M x (by simp)).2).mono ?_); rintro e wO2 ⟨v29, rfl, e29, fO2⟩; replace H := H.no fO2; replace F := F.no fO2) | ((with_reducible refine gate_dst (N := 29) rfl ?_); go_must (refine ev_alloc rfl 56 rfl _ (ndL 0 0 ⟨#[]⟩ ⟨#[]⟩ (.slice none 0 0)) zeroNd rfl ?_); intro g29 x29 hg29 h29 b29) | ((with_reducible refine gate_store (t := 56) (p := 29) rfl ?_); go_must (refine ev_store_row rfl 56 _ _ rfl g29 (ndL O.kind O.mode O.data O.target v29).toArray rfl rfl 56 _ b29 sizeNd rfl (ndL_one _ _ _ _ e29.one) ?_); intro y29 s29 B29; have F29 := h29.one s29 (.inr hg29); replace H := (H.no F29).add B29 (e29.no F29); replace F := F.no F29; clear e29 b29 B29 h29 s29 F29))
          clear c0 c1 c2 c3 c4 d0 d1 d2 d3 d4
          have fd : Fr No y29 y29.drew := (Fr.refl No y29).drew
          refine region_quiet (C := (fun w' : World => Hd w' [(g29, O, v29), (g27, O, v27), (g25, Y, v25), (g23, Y, v23), (g17, Z, v17), (g15, Z, v15), (g6, N, y), (g5, M, x)] ∧ Fr No W w')) (by kernel_rfl) (by kernel_rfl) ⟨H.no fd, F.no fd⟩ ?_
          simp only [List.append_eq, List.cons_append, List.nil_append]
          iterate 65 (first
            | ((with_reducible refine gate_q (N := 109) rfl ?_); refine quiet_val (v := ?_) (a' := ?_) (by rfl) ?_ ?_ ?_; rotate_left; (focus (rintro w' ⟨H', F'⟩; have b := (H'.out g5 M x (by simp)).1; have p0 := b.at_ 0 rfl; have p1 := b.at_ 1 rfl; have p2 := b.at_ 2 rfl; have p3 := b.at_ 3 rfl; have p4 := b.at_ 4 rfl; go_simp; with_reducible rfl)); rotate_left; (simp only [Act.put, List.setIfInBounds_toArray, List.set_cons_zero, List.set_cons_succ]; rfl))
            | ((with_reducible refine gate_q (N := 111) rfl ?_); refine quiet_val (v := ?_) (a' := ?_) (by rfl) ?_ ?_ ?_; rotate_left; (focus (rintro w' ⟨H', F'⟩; have b := (H'.out g5 M x (by simp)).1; have p0 := b.at_ 0 rfl; have p1 := b.at_ 1 rfl; have p2 := b.at_ 2 rfl; have p3 := b.at_ 3 rfl; have p4 := b.at_ 4 rfl; go_simp; with_reducible rfl)); rotate_left; (simp only [Act.put, List.setIfInBounds_toArray, List.set_cons_zero, List.set_cons_succ]; rfl))
            | ((with_reducible refine gate_q (N := 115) rfl ?_); refine quiet_val (v := ?_) (a' := ?_) (by rfl) ?_ ?_ ?_; rotate_left; (focus (rintro w' ⟨H', F'⟩; have b := (H'.out g5 M x (by simp)).1; have p0 := b.at_ 0 rfl; have p1 := b.at_ 1 rfl; have p2 := b.at_ 2 rfl; have p3 := b.at_ 3 rfl; have p4 := b.at_ 4 rfl; go_simp; with_reducible rfl)); rotate_left; (simp only [Act.put, List.setIfInBounds_toArray, List.set_cons_zero, List.set_cons_succ]; rfl))
            | ((with_reducible refine gate_q (N := 116) rfl ?_); refine quiet_val (v := ?_) (a' := ?_) (by rfl) ?_ ?_ ?_; rotate_left; (focus (rintro w' ⟨H', F'⟩; have b := (H'.out g6 N y (by simp)).1; have p0 := b.at_ 0 rfl; have p1 := b.at_ 1 rfl; have p2 := b.at_ 2 rfl; have p3 := b.at_ 3 rfl; have p4 := b.at_ 4 rfl; go_simp; with_reducible rfl)); rotate_left; (simp only [Act.put, List.setIfInBounds_toArray, List.set_cons_zero, List.set_cons_succ]; rfl))
            | ((with_reducible refine gate_q (N := 118) rfl ?_); refine quiet_val (v := ?_) (a' := ?_) (by rfl) ?_ ?_ ?_; rotate_left; (focus (rintro w' ⟨H', F'⟩; have b := (H'.out g5 M x (by simp)).1; have p0 := b.at_ 0 rfl; have p1 := b.at_ 1 rfl; have p2 := b.at_ 2 rfl; have p3 := b.at_ 3 rfl; have p4 := b.at_ 4 rfl; go_simp; with_reducible rfl)); rotate_left; (simp only [Act.put, List.setIfInBounds_toArray, List.set_cons_zero, List.set_cons_succ]; rfl))
            | ((with_reducible refine gate_q (N := 119) rfl ?_); refine quiet_val (v := ?_) (a' := ?_) (by rfl) ?_ ?_ ?_; rotate_left; (focus (rintro w' ⟨H', F'⟩; have b := (H'.out g6 N y (by simp)).1; have p0 := b.at_ 0 rfl; have p1 := b.at_ 1 rfl; have p2 := b.at_ 2 rfl; have p3 := b.at_ 3 rfl; have p4 := b.at_ 4 rfl; go_simp; with_reducible rfl)); rotate_left; (simp only [Act.put, List.setIfInBounds_toArray, List.set_cons_zero, List.set_cons_succ]; rfl))
            | ((with_reducible refine gate_q (N := 134) rfl ?_); refine quiet_val (v := ?_) (a' := ?_) (by rfl) ?_ ?_ ?_; rotate_left; (focus (rintro w' ⟨H', F'⟩; have b := (H'.out g15 Z v15 (by simp)).1; have p0 := b.at_ 0 rfl; have p1 := b.at_ 1 rfl; have p2 := b.at_ 2 rfl; have p3 := b.at_ 3 rfl; have p4 := b.at_ 4 rfl; go_simp; with_reducible rfl)); rotate_left; (simp only [Act.put, List.setIfInBounds_toArray, List.set_cons_zero, List.set_cons_succ]; rfl))
            | ((with_reducible refine gate_q (N := 135) rfl ?_); refine quiet_val (v := ?_) (a' := ?_) (by rfl) ?_ ?_ ?_; rotate_left; (focus (rintro w' ⟨H', F'⟩; have b := (H'.out g17 Z v17 (by simp)).1; have p0 := b.at_ 0 rfl; have p1 := b.at_ 1 rfl; have p2 := b.at_ 2 rfl; have p3 := b.at_ 3 rfl; have p4 := b.at_ 4 rfl; go_simp; with_reducible rfl)); rotate_left; (simp only [Act.put, List.setIfInBounds_toArray, List.set_cons_zero, List.set_cons_succ]; rfl))
            | ((with_reducible refine gate_q (N := 154) rfl ?_); refine quiet_val (v := ?_) (a' := ?_) (by rfl) ?_ ?_ ?_; rotate_left; (focus (rintro w' ⟨H', F'⟩; have b := (H'.out g23 Y v23 (by simp)).1; have p0 := b.at_ 0 rfl; have p1 := b.at_ 1 rfl; have p2 := b.at_ 2 rfl; have p3 := b.at_ 3 rfl; have p4 := b.at_ 4 rfl; go_simp; with_reducible rfl)); rotate_left; (simp only [Act.put, List.setIfInBounds_toArray, List.set_cons_zero, List.set_cons_succ]; rfl))
            | ((with_reducible refine gate_q (N := 155) rfl ?_); refine quiet_val (v := ?_) (a' := ?_) (by rfl) ?_ ?_ ?_; rotate_left; (focus (rintro w' ⟨H', F'⟩; have b := (H'.out g25 Y v25 (by simp)).1; have p0 := b.at_ 0 rfl; have p1 := b.at_ 1 rfl; have p2 := b.at_ 2 rfl; have p3 := b.at_ 3 rfl; have p4 := b.at_ 4 rfl; go_simp; with_reducible rfl)); rotate_left; (simp only [Act.put, List.setIfInBounds_toArray, List.set_cons_zero, List.set_cons_succ]; rfl))
            | ((with_reducible refine gate_q (N := 164) rfl ?_); refine quiet_val (v := ?_) (a' := ?_) (by rfl) ?_ ?_ ?_; rotate_left; (focus (rintro w' ⟨H', F'⟩; have b := (H'.out g27 O v27 (by simp)).1; have p0 := b.at_ 0 rfl; have p1 := b.at_ 1 rfl; have p2 := b.at_ 2 rfl; have p3 := b.at_ 3 rfl; have p4 := b.at_ 4 rfl; go_simp; with_reducible rfl)); rotate_left; (simp only [Act.put, List.setIfInBounds_toArray, List.set_cons_zero, List.set_cons_succ]; rfl))
            | ((with_reducible refine gate_q (N := 165) rfl ?_); refine quiet_val (v := ?_) (a' := ?_) (by rfl) ?_ ?_ ?_; rotate_left; (focus (rintro w' ⟨H', F'⟩; have b := (H'.out g29 O v29 (by simp)).1; have p0 := b.at_ 0 rfl; have p1 := b.at_ 1 rfl; have p2 := b.at_ 2 rfl; have p3 := b.at_ 3 rfl; have p4 := b.at_ 4 rfl; go_simp; with_reducible rfl)); rotate_left; (simp only [Act.put, List.setIfInBounds_toArray, List.set_cons_zero, List.set_cons_succ]; rfl))
            | ((with_reducible refine gate_q (N := 110) rfl ?_); refine quiet_call (a' := ?_) Try.func47 (by kernel_rfl) rfl #[ndV M x] (by rfl) rfl (by simp only [List.map_toArray, List.map_cons, List.map_nil]; rfl) (fun w' hC' => (CR1.out w' (hC'.1.out g5 M x (by simp)).2).mono (by rintro e w'' ⟨rfl, f⟩; exact ⟨rfl, hC'.1.no f, hC'.2.no f⟩)) ?_ ?_; rotate_left; (simp only [Act.put, List.setIfInBounds_toArray, List.set_cons_zero, List.set_cons_succ]; rfl))
            | ((with_reducible refine gate_q (N := 112) rfl ?_); refine quiet_call (a' := ?_) Try.func48 (by kernel_rfl) rfl #[ndV M x] (by rfl) rfl (by simp only [List.map_toArray, List.map_cons, List.map_nil]; rfl) (fun w' hC' => (CR2.out w' (hC'.1.out g5 M x (by simp)).2).mono (by rintro e w'' ⟨rfl, f⟩; exact ⟨rfl, hC'.1.no f, hC'.2.no f⟩)) ?_ ?_; rotate_left; (simp only [Act.put, List.setIfInBounds_toArray, List.set_cons_zero, List.set_cons_succ]; rfl))
            | ((with_reducible refine gate_q (N := 117) rfl ?_); refine quiet_call (a' := ?_) Try.func49 (by kernel_rfl) rfl #[ndV M x, ndV N y] (by rfl) rfl (by simp only [List.map_toArray, List.map_cons, List.map_nil]; rfl) (fun w' hC' => (CS1.out w' (hC'.1.out g5 M x (by simp)).2 (hC'.1.out g6 N y (by simp)).2).mono (by rintro e w'' ⟨rfl, f⟩; exact ⟨rfl, hC'.1.no f, hC'.2.no f⟩)) ?_ ?_; rotate_left; (simp only [Act.put, List.setIfInBounds_toArray, List.set_cons_zero, List.set_cons_succ]; rfl))
            | ((with_reducible refine gate_q (N := 120) rfl ?_); refine quiet_call (a' := ?_) Try.func50 (by kernel_rfl) rfl #[ndV M x, ndV N y] (by rfl) rfl (by simp only [List.map_toArray, List.map_cons, List.map_nil]; rfl) (fun w' hC' => (CS2.out w' (hC'.1.out g5 M x (by simp)).2 (hC'.1.out g6 N y (by simp)).2).mono (by rintro e w'' ⟨rfl, f⟩; exact ⟨rfl, hC'.1.no f, hC'.2.no f⟩)) ?_ ?_; rotate_left; (simp only [Act.put, List.setIfInBounds_toArray, List.set_cons_zero, List.set_cons_succ]; rfl))
            | ((with_reducible refine gate_q (N := 136) rfl ?_); refine quiet_call (a' := ?_) Try.func50 (by kernel_rfl) rfl #[ndV Z v15, ndV Z v17] (by rfl) rfl (by simp only [List.map_toArray, List.map_cons, List.map_nil]; rfl) (fun w' hC' => (CS3.out Z _ _ _ (hC'.1.out g15 Z v15 (by simp)).2 (hC'.1.out g17 Z v17 (by simp)).2).mono (by rintro e w'' ⟨rfl, f⟩; exact ⟨rfl, hC'.1.no f, hC'.2.no f⟩)) ?_ ?_; rotate_left; (simp only [Act.put, List.setIfInBounds_toArray, List.set_cons_zero, List.set_cons_succ]; rfl))
            | ((with_reducible refine gate_q (N := 156) rfl ?_); refine quiet_call (a' := ?_) Try.func50 (by kernel_rfl) rfl #[ndV Y v23, ndV Y v25] (by rfl) rfl (by simp only [List.map_toArray, List.map_cons, List.map_nil]; rfl) (fun w' hC' => (CS3.out Y _ _ _ (hC'.1.out g23 Y v23 (by simp)).2 (hC'.1.out g25 Y v25 (by simp)).2).mono (by rintro e w'' ⟨rfl, f⟩; exact ⟨rfl, hC'.1.no f, hC'.2.no f⟩)) ?_ ?_; rotate_left; (simp only [Act.put, List.setIfInBounds_toArray, List.set_cons_zero, List.set_cons_succ]; rfl))
            | ((with_reducible refine gate_q (N := 166) rfl ?_); refine quiet_call (a' := ?_) Try.func50 (by kernel_rfl) rfl #[ndV O v27, ndV O v29] (by rfl) rfl (by simp only [List.map_toArray, List.map_cons, List.map_nil]; rfl) (fun w' hC' => (CS3.out O _ _ _ (hC'.1.out g27 O v27 (by simp)).2 (hC'.1.out g29 O v29 (by simp)).2).mono (by rintro e w'' ⟨rfl, f⟩; exact ⟨rfl, hC'.1.no f, hC'.2.no f⟩)) ?_ ?_; rotate_left; (simp only [Act.put, List.setIfInBounds_toArray, List.set_cons_zero, List.set_cons_succ]; rfl))
            | (go_big_quiet_step ((intros; rfl))))
          refine wpQuiet_nil ?_
          rintro w' ⟨H', F'⟩
          go_wp2_with fail
          go_ret
          exact ⟨rfl, F'⟩
        · have hlz2 : (100 : Int) < (n.size : Int) := by omega
          go_enter Try.func7, Try.ntmps7
          go_wp2_with (first | ((with_reducible refine gate_dst (N := 5) rfl ?_); go_must (refine ev_box rfl 56 _ rfl _ rfl (ndL M.kind M.mode M.data M.target x) rfl ?_); intro g5 w1 hg5 f1 b5; have H := (Hd.nil w1).add b5 (hM.no f1); replace hN := hN.no f1) | ((with_reducible refine gate_dst (N := 6) rfl ?_); go_must (refine ev_box rfl 56 _ rfl _ rfl (ndL N.kind N.mode N.data N.target y) rfl ?_); intro g6 w2 hg6 f2 b6; replace H := (H.no f2).add b6 (hN.no f2); have F := f1.no f2; clear b5 hN hM) | (go_at_call 35; go_must (refine (awake_any _).mono ?_); rintro e w3 ⟨rfl, f3⟩; replace H := H.no f3; replace F := F.no f3; have c0 := (H.out g5 M x (by simp)).1.at_ 0 rfl; have c1 := (H.out g5 M x (by simp)).1.at_ 1 rfl; have c2 := (H.out g5 M x (by simp)).1.at_ 2 rfl; have c3 := (H.out g5 M x (by simp)).1.at_ 3 rfl; have c4 := (H.out g5 M x (by simp)).1.at_ 4 rfl; have d0 := (H.out g6 N y (by simp)).1.at_ 0 rfl; have d1 := (H.out g6 N y (by simp)).1.at_ 1 rfl; have d2 := (H.out g6 N y (by simp)).1.at_ 2 rfl; have d3 := (H.out g6 N y (by simp)).1.at_ 3 rfl; have d4 := (H.out g6 N y (by simp)).1.at_ 4 rfl) | (go_at_call 36; refine (CF1.out _ _ (H.out g5 M x (by simp)).2).mono ?_; rintro e w4 ⟨rfl, f4⟩; replace H := H.no f4; replace F := F.no f4; clear c0 c1 c2 c3 c4 d0 d1 d2 d3 d4; have c0 := (H.out g5 M x (by simp)).1.at_ 0 rfl; have c1 := (H.out g5 M x (by simp)).1.at_ 1 rfl; have c2 := (H.out g5 M x (by simp)).1.at_ 2 rfl; have c3 := (H.out g5 M x (by simp)).1.at_ 3 rfl; have c4 := (H.out g5 M x (by simp)).1.at_ 4 rfl; have d0 := (H.out g6 N y (by simp)).1.at_ 0 rfl; have d1 := (H.out g6 N y (by simp)).1.at_ 1 rfl; have d2 := (H.out g6 N y (by simp)).1.at_ 2 rfl; have d3 := (H.out g6 N y (by simp)).1.at_ 3 rfl; have d4 := (H.out g6 N y (by simp)).1.at_ 4 rfl; clear CF1) | (go_at_call 36; go_must (refine (CF2.out _ _ (H.out g6 N y (by simp)).2).mono ?_); rintro e w5 ⟨rfl, f5⟩; replace H := H.no f5; replace F := F.no f5; clear c0 c1 c2 c3 c4 d0 d1 d2 d3 d4; have c0 := (H.out g5 M x (by simp)).1.at_ 0 rfl; have c1 := (H.out g5 M x (by simp)).1.at_ 1 rfl; have c2 := (H.out g5 M x (by simp)).1.at_ 2 rfl; have c3 := (H.out g5 M x (by simp)).1.at_ 3 rfl; have c4 := (H.out g5 M x (by simp)).1.at_ 4 rfl; have d0 := (H.out g6 N y (by simp)).1.at_ 0 rfl; have d1 := (H.out g6 N y (by simp)).1.at_ 1 rfl; have d2 := (H.out g6 N y (by simp)).1.at_ 2 rfl; have d3 := (H.out g6 N y (by simp)).1.at_ 3 rfl; have d4 := (H.out g6 N y (by simp)).1.at_ 4 rfl; clear CF2))
          go_ret
          exact ⟨rfl, F⟩
      · have hlz : (6000 : Int) < (s.size : Int) := by omega
        go_enter Try.func7, Try.ntmps7
        go_wp2_with (first | ((with_reducible refine gate_dst (N := 5) rfl ?_); go_must (refine ev_box rfl 56 _ rfl _ rfl (ndL M.kind M.mode M.data M.target x) rfl ?_); intro g5 w1 hg5 f1 b5; have H := (Hd.nil w1).add b5 (hM.no f1); replace hN := hN.no f1) | ((with_reducible refine gate_dst (N := 6) rfl ?_); go_must (refine ev_box rfl 56 _ rfl _ rfl (ndL N.kind N.mode N.data N.target y) rfl ?_); intro g6 w2 hg6 f2 b6; replace H := (H.no f2).add b6 (hN.no f2); have F := f1.no f2; clear b5 hN hM) | (go_at_call 35; go_must (refine (awake_any _).mono ?_); rintro e w3 ⟨rfl, f3⟩; replace H := H.no f3; replace F := F.no f3; have c0 := (H.out g5 M x (by simp)).1.at_ 0 rfl; have c1 := (H.out g5 M x (by simp)).1.at_ 1 rfl; have c2 := (H.out g5 M x (by simp)).1.at_ 2 rfl; have c3 := (H.out g5 M x (by simp)).1.at_ 3 rfl; have c4 := (H.out g5 M x (by simp)).1.at_ 4 rfl; have d0 := (H.out g6 N y (by simp)).1.at_ 0 rfl; have d1 := (H.out g6 N y (by simp)).1.at_ 1 rfl; have d2 := (H.out g6 N y (by simp)).1.at_ 2 rfl; have d3 := (H.out g6 N y (by simp)).1.at_ 3 rfl; have d4 := (H.out g6 N y (by simp)).1.at_ 4 rfl) | (go_at_call 36; refine (CF1.out _ _ (H.out g5 M x (by simp)).2).mono ?_; rintro e w4 ⟨rfl, f4⟩; replace H := H.no f4; replace F := F.no f4; clear c0 c1 c2 c3 c4 d0 d1 d2 d3 d4; have c0 := (H.out g5 M x (by simp)).1.at_ 0 rfl; have c1 := (H.out g5 M x (by simp)).1.at_ 1 rfl; have c2 := (H.out g5 M x (by simp)).1.at_ 2 rfl; have c3 := (H.out g5 M x (by simp)).1.at_ 3 rfl; have c4 := (H.out g5 M x (by simp)).1.at_ 4 rfl; have d0 := (H.out g6 N y (by simp)).1.at_ 0 rfl; have d1 := (H.out g6 N y (by simp)).1.at_ 1 rfl; have d2 := (H.out g6 N y (by simp)).1.at_ 2 rfl; have d3 := (H.out g6 N y (by simp)).1.at_ 3 rfl; have d4 := (H.out g6 N y (by simp)).1.at_ 4 rfl; clear CF1) | (go_at_call 36; go_must (refine (CF2.out _ _ (H.out g6 N y (by simp)).2).mono ?_); rintro e w5 ⟨rfl, f5⟩; replace H := H.no f5; replace F := F.no f5; clear c0 c1 c2 c3 c4 d0 d1 d2 d3 d4; have c0 := (H.out g5 M x (by simp)).1.at_ 0 rfl; have c1 := (H.out g5 M x (by simp)).1.at_ 1 rfl; have c2 := (H.out g5 M x (by simp)).1.at_ 2 rfl; have c3 := (H.out g5 M x (by simp)).1.at_ 3 rfl; have c4 := (H.out g5 M x (by simp)).1.at_ 4 rfl; have d0 := (H.out g6 N y (by simp)).1.at_ 0 rfl; have d1 := (H.out g6 N y (by simp)).1.at_ 1 rfl; have d2 := (H.out g6 N y (by simp)).1.at_ 2 rfl; have d3 := (H.out g6 N y (by simp)).1.at_ 3 rfl; have d4 := (H.out g6 N y (by simp)).1.at_ 4 rfl; clear CF2))
        go_ret
        exact ⟨rfl, F⟩
end Go.Proofs.Ytenlokbfjajbbaa.Nd

/- The row NodeTells. No conditions beside the statement's own. -/
set_option linter.unusedSimpArgs false
set_option linter.unusedVariables false
namespace Go.Proofs.Ytenlokbfjajbbaa
open Go.ChangeShapes Go.WideShapes Go.ChangeAt Go.RowKit

theorem Try.own : ownKnob Try.prog.godebug = none := by kernel_rfl
theorem Try.laidOut : laidOutB Try.prog = true := by kernel_rfl

section
variable {H : Type} {enc : TypeId × Value → H} {P : Program} {w : World} {base : Nat} {spare : Nat → Bool} {held : Bool}
theorem trodAll_five {t t' t'' t3 t4 : TypeId} {args : Array Value} {ds : List (DataW H)} {ps : List MemPlace} (h : DataW.TrodAll enc P w base spare held [t, t', t'', t3, t4] args.toList ds ps) :
    ∃ v v' v'' v3 v4 d d' d'' d3 d4 p p' p'' p3 p4, args = #[v, v', v'', v3, v4] ∧ ds = [d, d', d'', d3, d4] ∧ ps = p ++ p' ++ p'' ++ p3 ++ p4 ∧ DataW.Trod enc P w base spare held t v d p ∧ DataW.Trod enc P w base spare held t' v' d' p' ∧ DataW.Trod enc P w base spare held t'' v'' d'' p'' ∧ DataW.Trod enc P w base spare held t3 v3 d3 p3 ∧ DataW.Trod enc P w base spare held t4 v4 d4 p4 := by
  obtain ⟨v, vs, d, ds', p, q, hargs, rfl, rfl, hd, hrest⟩ := trodAll_cons h
  obtain ⟨v', vs', d', ds'', p', q', rfl, rfl, rfl, hd', hrest'⟩ := trodAll_cons hrest
  obtain ⟨v'', vs'', d'', ds''', p'', q'', rfl, rfl, rfl, hd'', hrest''⟩ := trodAll_cons hrest'
  obtain ⟨v3, vs3, d3, ds3, p3, q3, rfl, rfl, rfl, hd3, hrest3⟩ := trodAll_cons hrest''
  obtain ⟨v4, vs4, d4, ds4, p4, q4, rfl, rfl, rfl, hd4, hrest4⟩ := trodAll_cons hrest3
  obtain ⟨rfl, rfl, rfl⟩ := trodAll_nil hrest4
  exact ⟨v, v', v'', v3, v4, d, d', d'', d3, d4, p, p', p'', p3, p4, by cases args; simp_all, rfl, by simp, hd, hd', hd'', hd3, hd4⟩
theorem trodAll_mk5 {t t' t'' t3 t4 : TypeId} {v v' v'' v3 v4 : Value} {d d' d'' d3 d4 : DataW H} {p p' p'' p3 p4 : List MemPlace} (h : DataW.Trod enc P w base spare held t v d p) (h' : DataW.Trod enc P w base spare held t' v' d' p')
    (h'' : DataW.Trod enc P w base spare held t'' v'' d'' p'') (h3 : DataW.Trod enc P w base spare held t3 v3 d3 p3) (h4 : DataW.Trod enc P w base spare held t4 v4 d4 p4) : DataW.TrodAll enc P w base spare held [t, t', t'', t3, t4] [v, v', v'', v3, v4] [d, d', d'', d3, d4] (p ++ (p' ++ (p'' ++ (p3 ++ p4)))) := ⟨p, p' ++ (p'' ++ (p3 ++ p4)), h, trodAll_mk4 h' h'' h3 h4, rfl⟩
end

set_option maxRecDepth 100000 in
theorem nodeTells_lifted (os : Os) (started : os.Started) (H : Type) (enc : TypeId × Value → H) :
    ReturnsInHanded {} Try.checked os 7 .any (Rows.nodeTellsSpec.pre6 enc Try.prog Try.f7 Rows.nodeTellsRow.domain false) (Rows.nodeTellsSpec.post enc Try.prog Try.f7 false true false false) := by
  refine returnsInHanded_of_change_sized (C := Try.checked) Try.own started (by kernel_rfl) Try.func7
    (ChangeSpec.witness6 (enc := enc) (C := Try.checked) false ⟨#[], #[.agg #[.int .i64 0, .int .i64 0, .string ⟨#[]⟩, .string ⟨#[]⟩, .slice none 0 0], .agg #[.int .i64 0, .int .i64 0, .string ⟨#[]⟩, .string ⟨#[]⟩, .slice none 0 0], .string ⟨#[]⟩, .string ⟨#[]⟩, .int .i64 0], []⟩ 8 (by kernel_rfl) (by kernel_rfl) (by kernel_rfl) (by kernel_rfl)) ?_
  intro W base args ds gs before hval0 hW _ hsz0 _
  clear hsz0
  have hval : ∀ (j : Nat) t v, Try.f7.params[j]? = some t → args[j]? = some v → Value.okWide Try.prog W .any base t v := hval0
  have hW' := hW
  obtain ⟨p, q, hA0, hV, rfl, _, _⟩ := hW
  have hA : DataW.TrodAll enc Try.prog W 0 (fun _ => true) true Try.f7.params.toList args.toList ds p := hA0
  rw [Try.params7] at hA hval
  obtain ⟨v0, v1, v2, v3, v4, d0, d1, d2, d3, d4, p0, p1, p2, p3, p4, rfl, rfl, rfl, h0, h1, h2, h3, h4⟩ := trodAll_five hA
  obtain ⟨rfl, rfl⟩ := trodVars_none hV
  obtain ⟨M, x, rfl, eM⟩ := Nd.open_node (hval 0 56 v0 rfl rfl) h0
  obtain ⟨N, y, rfl, eN⟩ := Nd.open_node (hval 1 56 v1 rfl rfl) h1
  obtain ⟨s, rfl, rfl, rfl, hs⟩ := Go.ChangeMaps.open_string Try.underlying9 (hval 2 9 v2 rfl rfl) h2
  obtain ⟨n, rfl, rfl, rfl, hn⟩ := Go.ChangeMaps.open_string Try.underlying9 (hval 3 9 v3 rfl rfl) h3
  obtain ⟨ino, rfl, rfl, rfl, wi⟩ := open_int Try.underlying3 (hval 4 3 v4 rfl rfl) h4
  simp only [List.append_nil] at hW'
  have hlt : ∀ z ∈ p0 ++ p1 ++ [], z.block < W.heap.size := fun z hz => by simpa using hW'.lt z (by simpa using hz)
  have k0 : ∀ (W' : World), Below W.heap.size W W' → DataW.Trod enc Try.prog W' 0 (fun b => decide (b < W.heap.size)) true 56 (Nd.ndV M x) d0 p0 :=
    fun W' hn => Below.trod Try.laidOut (by kernel_rfl) (of_decide_eq_true (by kernel_rfl)) h0 hn (fun z hz => hlt z (by simp [hz]))
  have k1 : ∀ (W' : World), Below W.heap.size W W' → DataW.Trod enc Try.prog W' 0 (fun b => decide (b < W.heap.size)) true 56 (Nd.ndV N y) d1 p1 :=
    fun W' hn => Below.trod Try.laidOut (by kernel_rfl) (of_decide_eq_true (by kernel_rfl)) h1 hn (fun z hz => hlt z (by simp [hz]))
  refine (Nd.tells_any M N x y s n ino W eM eN).mono fun e W' ⟨he, hf⟩ => ?_
  subst he
  have hnx := hf.below
  refine ⟨_, rfl, _, _, _, [], p0 ++ (p1 ++ ([] ++ ([] ++ []))), [], hW', ?_, trodAll_mk5 (k0 _ hnx) (k1 _ hnx) (Go.ChangeMaps.shut_string Try.underlying9 hs) (Go.ChangeMaps.shut_string Try.underlying9 hn) (shut_int Try.underlying3 wi), rfl, hnx.frame _, fun h => by cases h⟩
  exact trodAll_mk1 (shut_bool Try.underlying4 true)

theorem nodeTells_holds : Rows.NodeTellsSaid :=
  OpenClaim.holds_of_wide 7 Try.f7 rfl rfl rfl rfl rfl rfl rfl ⟨rfl, rfl, rfl, rfl, rfl⟩ rfl rfl rfl rfl rfl (by kernel_rfl) Try.func7 (by kernel_rfl)
    (of_decide_eq_true (by kernel_rfl)) (by unfold Func.isWrapper; first | (rw [if_pos (by decide +kernel)]; kernel_rfl) | (rw [if_neg (by decide +kernel)]; exact ⟨rfl, rfl⟩))
    (fun os started H enc _ => nodeTells_lifted os started H enc)
end Go.Proofs.Ytenlokbfjajbbaa
