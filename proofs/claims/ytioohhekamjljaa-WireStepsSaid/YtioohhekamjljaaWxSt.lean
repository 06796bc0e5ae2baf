/- Texts joined by merge.py: WireTwoL, WireTwoM, WireTwoN, WireTwoR, WireSteps, WireOpen, WireStepsRow. -/
import Derived.Test.YtioohhekamjljaaWxE
import Derived.Test.YtioohhekamjljaaProg
import Derived.Deep.Slices
import Derived.Deep.Fields
import Derived.ChangeSame
import Derived.Lib.SmallJoins
import Derived.Test.YtioohhekamjljaaRows
import Derived.ProofKit
import Derived.SizedLaws
/- WireSteps' loops. Conditions: sizes are bounded, as written out. -/
set_option linter.unusedSimpArgs false
set_option linter.unusedVariables false
namespace Go.Proofs.Ytioohhekamjljaa.Wk
open Go Go.RowKit Go.Proofs.YtioohhekamjljaaW.PrintWords Go.Proofs.YtioohhekamjljaaW.PrintLast Go.Proofs.Ytioohhekamjljaa.Ev Go.Proofs.Ytioohhekamjljaa.Reg Go.Proofs.Ytioohhekamjljaa.Sha Go.Proofs.Ytioohhekamjljaa.Sb Go.Proofs.Ytioohhekamjljaa.Crc Go.Proofs.Ytioohhekamjljaa.Wi
noncomputable def bodySteps : Code := Try.f6.body.getD .skip
/-- A row of steps at a place. -/
structure StR (w : World) (A : Option Addr) (L : List St) : Prop where
  out : 0 < L.length → ∃ b, A = some ⟨b, 0, none⟩ ∧ b < w.heap.size ∧ ∀ i u, (stepsL L)[i]? = some u → w.cell? ⟨b, i, none⟩ = some u
theorem StR.no {w w1 : World} {A : Option Addr} {L : List St} (h : StR w A L) (f : Fr No w w1) : StR w1 A L := ⟨fun h0 => by
  obtain ⟨b, e, hb, hc⟩ := h.out h0
  exact ⟨b, e, Nat.lt_of_lt_of_le hb f.size, fun i u hu => Fr.cell (hc i u hu) f (fun hh => hh)⟩⟩
theorem StR.at_ {w : World} {A : Option Addr} {L : List St} (h : StR w A L) {i : Nat} {y : St} (hy : L[i]? = some y) : ∃ b, A = some ⟨b, 0, none⟩ ∧ ∀ j u, j < 12 → (stepL y)[j]? = some u → w.cell? ⟨b, i * 12 + j, none⟩ = some u := by
  obtain ⟨b, e, _, hc⟩ := h.out (by have := (List.getElem?_eq_some_iff.1 hy).1; omega)
  exact ⟨b, e, fun j u hj hu => hc _ _ (by rw [steps_at_cell L i j y hy hj]; exact hu)⟩
set_option maxHeartbeats 8000000 in
set_option maxRecDepth 100000 in
theorem steps_loop1 (W : World) (u : Nat → Value) (h : Hd) (l : List Cm) (A Aa Ad : Option Addr) (c g gq na ca nd cd bA nA cA : Nat) (s : B) (hl : l.length ≤ 1000000) (hnA : nA = l.length + 2) (HL : CmS W A l) (HA : StR W (some ⟨bA, 0, none⟩) (allS h l))
    (Q : Exit → Act → World → Prop) (hQ : ∀ (u : Nat → Value) ws, Fr No W ws → Q .normal { tmps := List.toArray (u 0 :: .slice A l.length c :: u 2 :: u 3 :: u 4 :: u 5 :: u 6 :: .string (bs s) :: u 8 :: .pointer (some ⟨g, 0, none⟩) :: u 10 :: .slice Aa na ca :: u 12 :: u 13 :: .pointer (some ⟨gq, 0, none⟩) :: u 15 :: u 16 :: u 17 :: .slice Ad nd cd :: u 19 :: .slice (some ⟨bA, 0, none⟩) nA cA :: u 21 :: u 22 :: u 23 :: u 24 :: u 25 :: u 26 :: u 27 :: u 28 :: u 29 :: u 30 :: u 31 :: u 32 :: u 33 :: u 34 :: u 35 :: u 36 :: u 37 :: u 38 :: u 39 :: u 40 :: u 41 :: u 42 :: u 43 :: u 44 :: u 45 :: u 46 :: u 47 :: u 48 :: u 49 :: u 50 :: u 51 :: u 52 :: u 53 :: u 54 :: u 55 :: u 56 :: u 57 :: u 58 :: u 59 :: u 60 :: u 61 :: u 62 :: u 63 :: u 64 :: u 65 :: u 66 :: u 67 :: u 68 :: u 69 :: u 70 :: u 71 :: u 72 :: u 73 :: u 74 :: u 75 :: u 76 :: u 77 :: u 78 :: u 79 :: u 80 :: u 81 :: u 82 :: u 83 :: u 84 :: u 85 :: u 86 :: u 87 :: u 88 :: u 89 :: u 90 :: u 91 :: u 92 :: u 93 :: u 94 :: u 95 :: u 96 :: u 97 :: u 98 :: u 99 :: u 100 :: u 101 :: u 102 :: u 103 :: u 104 :: u 105 :: u 106 :: u 107 :: u 108 :: u 109 :: u 110 :: u 111 :: u 112 :: u 113 :: u 114 :: u 115 :: u 116 :: u 117 :: u 118 :: u 119 :: u 120 :: u 121 :: u 122 :: u 123 :: u 124 :: u 125 :: u 126 :: u 127 :: u 128 :: u 129 :: u 130 :: u 131 :: u 132 :: u 133 :: u 134 :: u 135 :: u 136 :: u 137 :: u 138 :: u 139 :: u 140 :: u 141 :: u 142 :: u 143 :: u 144 :: u 145 :: u 146 :: u 147 :: u 148 :: u 149 :: u 150 :: u 151 :: u 152 :: u 153 :: u 154 :: u 155 :: u 156 :: u 157 :: u 158 :: u 159 :: u 160 :: u 161 :: u 162 :: u 163 :: u 164 :: u 165 :: u 166 :: u 167 :: u 168 :: u 169 :: u 170 :: u 171 :: u 172 :: u 173 :: u 174 :: u 175 :: u 176 :: u 177 :: u 178 :: u 179 :: u 180 :: u 181 :: u 182 :: u 183 :: u 184 :: u 185 :: u 186 :: u 187 :: u 188 :: u 189 :: u 190 :: u 191 :: u 192 :: u 193 :: u 194 :: u 195 :: u 196 :: u 197 :: u 198 :: u 199 :: u 200 :: u 201 :: u 202 :: u 203 :: u 204 :: u 205 :: u 206 :: u 207 :: u 208 :: u 209 :: u 210 :: u 211 :: u 212 :: u 213 :: u 214 :: u 215 :: u 216 :: u 217 :: u 218 :: u 219 :: u 220 :: u 221 :: []), defers := [] } ws) :
    Code.wp Try.prog (sub [1,1,1,1,1,1,1,1,1,1,1,1,1,1,1,0,1] bodySteps) Q { tmps := List.toArray (u 0 :: .slice A l.length c :: u 2 :: u 3 :: u 4 :: u 5 :: u 6 :: .string (bs s) :: u 8 :: .pointer (some ⟨g, 0, none⟩) :: u 10 :: .slice Aa na ca :: u 12 :: u 13 :: .pointer (some ⟨gq, 0, none⟩) :: u 15 :: u 16 :: u 17 :: .slice Ad nd cd :: u 19 :: .slice (some ⟨bA, 0, none⟩) nA cA :: .int .i64 0 :: u 22 :: u 23 :: u 24 :: u 25 :: u 26 :: u 27 :: u 28 :: u 29 :: u 30 :: u 31 :: u 32 :: u 33 :: u 34 :: u 35 :: u 36 :: u 37 :: u 38 :: u 39 :: u 40 :: u 41 :: u 42 :: u 43 :: u 44 :: u 45 :: u 46 :: u 47 :: u 48 :: u 49 :: u 50 :: u 51 :: u 52 :: u 53 :: u 54 :: u 55 :: u 56 :: u 57 :: u 58 :: u 59 :: u 60 :: u 61 :: u 62 :: u 63 :: u 64 :: u 65 :: u 66 :: u 67 :: u 68 :: u 69 :: u 70 :: u 71 :: u 72 :: u 73 :: u 74 :: u 75 :: u 76 :: u 77 :: u 78 :: u 79 :: u 80 :: u 81 :: u 82 :: u 83 :: u 84 :: u 85 :: u 86 :: u 87 :: u 88 :: u 89 :: u 90 :: u 91 :: u 92 :: u 93 :: u 94 :: u 95 :: u 96 :: u 97 :: u 98 :: u 99 :: u 100 :: u 101 :: u 102 :: u 103 :: u 104 :: u 105 :: u 106 :: u 107 :: u 108 :: u 109 :: u 110 :: u 111 :: u 112 :: u 113 :: u 114 :: u 115 :: u 116 :: u 117 :: u 118 :: u 119 :: u 120 :: u 121 :: u 122 :: u 123 :: u 124 :: u 125 :: u 126 :: u 127 :: u 128 :: u 129 :: u 130 :: u 131 :: u 132 :: u 133 :: u 134 :: u 135 :: u 136 :: u 137 :: u 138 :: u 139 :: u 140 :: u 141 :: u 142 :: u 143 :: u 144 :: u 145 :: u 146 :: u 147 :: u 148 :: u 149 :: u 150 :: u 151 :: u 152 :: u 153 :: u 154 :: u 155 :: u 156 :: u 157 :: u 158 :: u 159 :: u 160 :: u 161 :: u 162 :: u 163 :: u 164 :: u 165 :: u 166 :: u 167 :: u 168 :: u 169 :: u 170 :: u 171 :: u 172 :: u 173 :: u 174 :: u 175 :: u 176 :: u 177 :: u 178 :: u 179 :: u 180 :: u 181 :: u 182 :: u 183 :: u 184 :: u 185 :: u 186 :: u 187 :: u 188 :: u 189 :: u 190 :: u 191 :: u 192 :: u 193 :: u 194 :: u 195 :: u 196 :: u 197 :: u 198 :: u 199 :: u 200 :: u 201 :: u 202 :: u 203 :: u 204 :: u 205 :: u 206 :: u 207 :: u 208 :: u 209 :: u 210 :: u 211 :: u 212 :: u 213 :: u 214 :: u 215 :: u 216 :: u 217 :: u 218 :: u 219 :: u 220 :: u 221 :: []), defers := [] } W := by
  conv => arg 2; whnf
  have HQ := Kp.mk hQ
  have HLK := Kp.mk HL
  have HAK := Kp.mk HA
  have HNA := Kp.mk hnA
  clear hQ HL HA hnA
  refine wp_block ?_
  refine wp_loop_ghost_k (fun n a' w' => ∃ (i : Nat) (u : Nat → Value), (n + i = l.length ∧ Fr No W w') ∧ a' = { tmps := List.toArray (u 0 :: .slice A l.length c :: u 2 :: u 3 :: u 4 :: u 5 :: u 6 :: .string (bs s) :: u 8 :: .pointer (some ⟨g, 0, none⟩) :: u 10 :: .slice Aa na ca :: u 12 :: u 13 :: .pointer (some ⟨gq, 0, none⟩) :: u 15 :: u 16 :: u 17 :: .slice Ad nd cd :: u 19 :: .slice (some ⟨bA, 0, none⟩) nA cA :: .int .i64 (i : Int) :: u 22 :: u 23 :: u 24 :: u 25 :: u 26 :: u 27 :: u 28 :: u 29 :: u 30 :: u 31 :: u 32 :: u 33 :: u 34 :: u 35 :: u 36 :: u 37 :: u 38 :: u 39 :: u 40 :: u 41 :: u 42 :: u 43 :: u 44 :: u 45 :: u 46 :: u 47 :: u 48 :: u 49 :: u 50 :: u 51 :: u 52 :: u 53 :: u 54 :: u 55 :: u 56 :: u 57 :: u 58 :: u 59 :: u 60 :: u 61 :: u 62 :: u 63 :: u 64 :: u 65 :: u 66 :: u 67 :: u 68 :: u 69 :: u 70 :: u 71 :: u 72 :: u 73 :: u 74 :: u 75 :: u 76 :: u 77 :: u 78 :: u 79 :: u 80 :: u 81 :: u 82 :: u 83 :: u 84 :: u 85 :: u 86 :: u 87 :: u 88 :: u 89 :: u 90 :: u 91 :: u 92 :: u 93 :: u 94 :: u 95 :: u 96 :: u 97 :: u 98 :: u 99 :: u 100 :: u 101 :: u 102 :: u 103 :: u 104 :: u 105 :: u 106 :: u 107 :: u 108 :: u 109 :: u 110 :: u 111 :: u 112 :: u 113 :: u 114 :: u 115 :: u 116 :: u 117 :: u 118 :: u 119 :: u 120 :: u 121 :: u 122 :: u 123 :: u 124 :: u 125 :: u 126 :: u 127 :: u 128 :: u 129 :: u 130 :: u 131 :: u 132 :: u 133 :: u 134 :: u 135 :: u 136 :: u 137 :: u 138 :: u 139 :: u 140 :: u 141 :: u 142 :: u 143 :: u 144 :: u 145 :: u 146 :: u 147 :: u 148 :: u 149 :: u 150 :: u 151 :: u 152 :: u 153 :: u 154 :: u 155 :: u 156 :: u 157 :: u 158 :: u 159 :: u 160 :: u 161 :: u 162 :: u 163 :: u 164 :: u 165 :: u 166 :: u 167 :: u 168 :: u 169 :: u 170 :: u 171 :: u 172 :: u 173 :: u 174 :: u 175 :: u 176 :: u 177 :: u 178 :: u 179 :: u 180 :: u 181 :: u 182 :: u 183 :: u 184 :: u 185 :: u 186 :: u 187 :: u 188 :: u 189 :: u 190 :: u 191 :: u 192 :: u 193 :: u 194 :: u 195 :: u 196 :: u 197 :: u 198 :: u 199 :: u 200 :: u 201 :: u 202 :: u 203 :: u 204 :: u 205 :: u 206 :: u 207 :: u 208 :: u 209 :: u 210 :: u 211 :: u 212 :: u 213 :: u 214 :: u 215 :: u 216 :: u 217 :: u 218 :: u 219 :: u 220 :: u 221 :: []), defers := [] }) l.length
    ⟨0, u, ⟨rfl, Fr.refl _ _⟩, rfl⟩ ?_
  rintro n a' w' ⟨i, u, ⟨hn, f⟩, rfl⟩ J K hJ hK
  have HJ := Kp.mk hJ
  have HK := Kp.mk hK
  have F := Kp.mk f
  have HN := Kp.mk hn
  clear hJ hK hn f
  by_cases hlt : i < l.length
  · have hltz : (i : Int) < (l.length : Int) := by omega
    obtain ⟨x, hx⟩ : ∃ x, l[i]? = some x := ⟨_, List.getElem?_eq_getElem hlt⟩
    obtain ⟨b, o, rfl, hcell⟩ := HLK.out.cells hx F.out
    have hbA := (HAK.out.no F.out).at_ (allS_cmd h l i x hx)
    obtain ⟨b2, e2, hall⟩ := hbA
    obtain rfl : bA = b2 := by injection e2 with e2; injection e2
    have q0 := hcell 0 _ rfl
    have q1 := hcell 1 _ rfl
    have q2 := hcell 2 _ rfl
    have q3 := hcell 3 _ rfl
    have q4 := hcell 4 _ rfl
    have q5 := hcell 5 _ rfl
    have q6 := hcell 6 _ rfl
    have q7 := hcell 7 _ rfl
    rw [Nat.add_zero] at q0
    have l0 := hall 0 _ (by decide) rfl
    have l4 := hall 4 _ (by decide) rfl
    have l5 := hall 5 _ (by decide) rfl
    have l6 := hall 6 _ (by decide) rfl
    have l7 := hall 7 _ (by decide) rfl
    have l8 := hall 8 _ (by decide) rfl
    have l9 := hall 9 _ (by decide) rfl
    have l10 := hall 10 _ (by decide) rfl
    have l11 := hall 11 _ (by decide) rfl
    rw [Nat.add_zero] at l0
    have hw1 : wrap64 ((i : Int) + 1) = ((i + 1 : Nat) : Int) := by unfold wrap64; omega
    have hi0 : (0 : Int) ≤ (i : Int) := by omega
    have hi1 : (0 : Int) ≤ ((i + 1 : Nat) : Int) := by omega
    have hi2 : ((i + 1 : Nat) : Int) < (nA : Int) := by have := HNA.out; omega
    clear hcell hall hx
    go_wp2_with fail
    go_quiet (fail)
    go_wp2_with fail
    refine HK.out _ _ (Handed.intro (n - 1) (by have := HN.out; omega) (HJ.out _ _ _ ⟨i + 1, ex_u ⟨by have := HN.out; omega, F.out.drewN _⟩ rfl⟩))
  · have hltz : ¬ (i : Int) < (l.length : Int) := by omega
    go_wp2_with fail
    exact K_u (K := Q .normal) (fun u => HQ.out u _ F.out) rfl
end Go.Proofs.Ytioohhekamjljaa.Wk

/- WireSteps' second loop. Conditions: sizes are bounded, as written out. -/
set_option linter.unusedSimpArgs false
set_option linter.unusedVariables false
namespace Go.Proofs.Ytioohhekamjljaa.Wk
open Go Go.RowKit Go.Proofs.YtioohhekamjljaaW.PrintWords Go.Proofs.YtioohhekamjljaaW.PrintLast Go.Proofs.Ytioohhekamjljaa.Ev Go.Proofs.Ytioohhekamjljaa.Reg Go.Proofs.Ytioohhekamjljaa.Sha Go.Proofs.Ytioohhekamjljaa.Sb Go.Proofs.Ytioohhekamjljaa.Crc Go.Proofs.Ytioohhekamjljaa.Wi
set_option maxHeartbeats 8000000 in
set_option maxRecDepth 100000 in
theorem steps_loop2 (W : World) (u : Nat → Value) (L Lb : List St) (A Aa Ad : Option Addr) (c g gq nl na ca nd cd bA nA cA : Nat) (s : B) (hA : nA ≤ 1000002) (hnd : nd = Lb.length) (hna : na + nd = nA) (HD : StR W Ad Lb) (HA : StR W (some ⟨bA, 0, none⟩) L) (hR : ∀ m, L[na + m]? = Lb[m]?)
    (Q : Exit → Act → World → Prop) (hQ : ∀ (u : Nat → Value) ws, Fr No W ws → Q .normal { tmps := List.toArray (u 0 :: .slice A nl c :: u 2 :: u 3 :: u 4 :: u 5 :: u 6 :: .string (bs s) :: u 8 :: .pointer (some ⟨g, 0, none⟩) :: u 10 :: .slice Aa na ca :: u 12 :: u 13 :: .pointer (some ⟨gq, 0, none⟩) :: u 15 :: u 16 :: u 17 :: .slice Ad nd cd :: u 19 :: .slice (some ⟨bA, 0, none⟩) nA cA :: u 21 :: u 22 :: u 23 :: u 24 :: u 25 :: u 26 :: u 27 :: u 28 :: u 29 :: u 30 :: u 31 :: u 32 :: u 33 :: u 34 :: u 35 :: u 36 :: u 37 :: u 38 :: u 39 :: u 40 :: u 41 :: u 42 :: u 43 :: u 44 :: u 45 :: u 46 :: u 47 :: u 48 :: u 49 :: u 50 :: u 51 :: u 52 :: u 53 :: u 54 :: u 55 :: u 56 :: u 57 :: u 58 :: u 59 :: u 60 :: u 61 :: u 62 :: u 63 :: u 64 :: u 65 :: u 66 :: u 67 :: u 68 :: u 69 :: u 70 :: u 71 :: u 72 :: u 73 :: u 74 :: u 75 :: u 76 :: u 77 :: u 78 :: u 79 :: u 80 :: u 81 :: u 82 :: u 83 :: u 84 :: u 85 :: u 86 :: u 87 :: u 88 :: u 89 :: u 90 :: u 91 :: u 92 :: u 93 :: u 94 :: u 95 :: u 96 :: u 97 :: u 98 :: u 99 :: u 100 :: u 101 :: u 102 :: u 103 :: u 104 :: u 105 :: u 106 :: u 107 :: u 108 :: u 109 :: u 110 :: u 111 :: u 112 :: u 113 :: u 114 :: u 115 :: u 116 :: u 117 :: u 118 :: u 119 :: u 120 :: u 121 :: u 122 :: u 123 :: u 124 :: u 125 :: u 126 :: u 127 :: u 128 :: u 129 :: u 130 :: u 131 :: u 132 :: u 133 :: u 134 :: u 135 :: u 136 :: u 137 :: u 138 :: u 139 :: u 140 :: u 141 :: u 142 :: u 143 :: u 144 :: u 145 :: u 146 :: u 147 :: u 148 :: u 149 :: u 150 :: u 151 :: u 152 :: u 153 :: u 154 :: u 155 :: u 156 :: u 157 :: u 158 :: u 159 :: u 160 :: u 161 :: u 162 :: u 163 :: u 164 :: u 165 :: u 166 :: u 167 :: u 168 :: u 169 :: u 170 :: u 171 :: u 172 :: u 173 :: u 174 :: u 175 :: u 176 :: u 177 :: u 178 :: u 179 :: u 180 :: u 181 :: u 182 :: u 183 :: u 184 :: u 185 :: u 186 :: u 187 :: u 188 :: u 189 :: u 190 :: u 191 :: u 192 :: u 193 :: u 194 :: u 195 :: u 196 :: u 197 :: u 198 :: u 199 :: u 200 :: u 201 :: u 202 :: u 203 :: u 204 :: u 205 :: u 206 :: u 207 :: u 208 :: u 209 :: u 210 :: u 211 :: u 212 :: u 213 :: u 214 :: u 215 :: u 216 :: u 217 :: u 218 :: u 219 :: u 220 :: u 221 :: []), defers := [] } ws) :
    Code.wp Try.prog (sub [1,1,1,1,1,1,1,1,1,1,1,1,1,1,1,1,0,1] bodySteps) Q { tmps := List.toArray (u 0 :: .slice A nl c :: u 2 :: u 3 :: u 4 :: u 5 :: u 6 :: .string (bs s) :: u 8 :: .pointer (some ⟨g, 0, none⟩) :: u 10 :: .slice Aa na ca :: u 12 :: u 13 :: .pointer (some ⟨gq, 0, none⟩) :: u 15 :: u 16 :: u 17 :: .slice Ad nd cd :: u 19 :: .slice (some ⟨bA, 0, none⟩) nA cA :: u 21 :: .int .i64 0 :: u 23 :: u 24 :: u 25 :: u 26 :: u 27 :: u 28 :: u 29 :: u 30 :: u 31 :: u 32 :: u 33 :: u 34 :: u 35 :: u 36 :: u 37 :: u 38 :: u 39 :: u 40 :: u 41 :: u 42 :: u 43 :: u 44 :: u 45 :: u 46 :: u 47 :: u 48 :: u 49 :: u 50 :: u 51 :: u 52 :: u 53 :: u 54 :: u 55 :: u 56 :: u 57 :: u 58 :: u 59 :: u 60 :: u 61 :: u 62 :: u 63 :: u 64 :: u 65 :: u 66 :: u 67 :: u 68 :: u 69 :: u 70 :: u 71 :: u 72 :: u 73 :: u 74 :: u 75 :: u 76 :: u 77 :: u 78 :: u 79 :: u 80 :: u 81 :: u 82 :: u 83 :: u 84 :: u 85 :: u 86 :: u 87 :: u 88 :: u 89 :: u 90 :: u 91 :: u 92 :: u 93 :: u 94 :: u 95 :: u 96 :: u 97 :: u 98 :: u 99 :: u 100 :: u 101 :: u 102 :: u 103 :: u 104 :: u 105 :: u 106 :: u 107 :: u 108 :: u 109 :: u 110 :: u 111 :: u 112 :: u 113 :: u 114 :: u 115 :: u 116 :: u 117 :: u 118 :: u 119 :: u 120 :: u 121 :: u 122 :: u 123 :: u 124 :: u 125 :: u 126 :: u 127 :: u 128 :: u 129 :: u 130 :: u 131 :: u 132 :: u 133 :: u 134 :: u 135 :: u 136 :: u 137 :: u 138 :: u 139 :: u 140 :: u 141 :: u 142 :: u 143 :: u 144 :: u 145 :: u 146 :: u 147 :: u 148 :: u 149 :: u 150 :: u 151 :: u 152 :: u 153 :: u 154 :: u 155 :: u 156 :: u 157 :: u 158 :: u 159 :: u 160 :: u 161 :: u 162 :: u 163 :: u 164 :: u 165 :: u 166 :: u 167 :: u 168 :: u 169 :: u 170 :: u 171 :: u 172 :: u 173 :: u 174 :: u 175 :: u 176 :: u 177 :: u 178 :: u 179 :: u 180 :: u 181 :: u 182 :: u 183 :: u 184 :: u 185 :: u 186 :: u 187 :: u 188 :: u 189 :: u 190 :: u 191 :: u 192 :: u 193 :: u 194 :: u 195 :: u 196 :: u 197 :: u 198 :: u 199 :: u 200 :: u 201 :: u 202 :: u 203 :: u 204 :: u 205 :: u 206 :: u 207 :: u 208 :: u 209 :: u 210 :: u 211 :: u 212 :: u 213 :: u 214 :: u 215 :: u 216 :: u 217 :: u 218 :: u 219 :: u 220 :: u 221 :: []), defers := [] } W := by
  conv => arg 2; whnf
  have HQ := Kp.mk hQ
  have HDK := Kp.mk HD
  have HAK := Kp.mk HA
  have HRK := Kp.mk hR
  have HND := Kp.mk hnd
  have HNA := Kp.mk hna
  have HA2 := Kp.mk hA
  clear hQ HD HA hR hnd hna hA
  refine wp_block ?_
  refine wp_loop_ghost_k (fun n a' w' => ∃ (i : Nat) (u : Nat → Value), (n + i = nd ∧ Fr No W w') ∧ a' = { tmps := List.toArray (u 0 :: .slice A nl c :: u 2 :: u 3 :: u 4 :: u 5 :: u 6 :: .string (bs s) :: u 8 :: .pointer (some ⟨g, 0, none⟩) :: u 10 :: .slice Aa na ca :: u 12 :: u 13 :: .pointer (some ⟨gq, 0, none⟩) :: u 15 :: u 16 :: u 17 :: .slice Ad nd cd :: u 19 :: .slice (some ⟨bA, 0, none⟩) nA cA :: u 21 :: .int .i64 (i : Int) :: u 23 :: u 24 :: u 25 :: u 26 :: u 27 :: u 28 :: u 29 :: u 30 :: u 31 :: u 32 :: u 33 :: u 34 :: u 35 :: u 36 :: u 37 :: u 38 :: u 39 :: u 40 :: u 41 :: u 42 :: u 43 :: u 44 :: u 45 :: u 46 :: u 47 :: u 48 :: u 49 :: u 50 :: u 51 :: u 52 :: u 53 :: u 54 :: u 55 :: u 56 :: u 57 :: u 58 :: u 59 :: u 60 :: u 61 :: u 62 :: u 63 :: u 64 :: u 65 :: u 66 :: u 67 :: u 68 :: u 69 :: u 70 :: u 71 :: u 72 :: u 73 :: u 74 :: u 75 :: u 76 :: u 77 :: u 78 :: u 79 :: u 80 :: u 81 :: u 82 :: u 83 :: u 84 :: u 85 :: u 86 :: u 87 :: u 88 :: u 89 :: u 90 :: u 91 :: u 92 :: u 93 :: u 94 :: u 95 :: u 96 :: u 97 :: u 98 :: u 99 :: u 100 :: u 101 :: u 102 :: u 103 :: u 104 :: u 105 :: u 106 :: u 107 :: u 108 :: u 109 :: u 110 :: u 111 :: u 112 :: u 113 :: u 114 :: u 115 :: u 116 :: u 117 :: u 118 :: u 119 :: u 120 :: u 121 :: u 122 :: u 123 :: u 124 :: u 125 :: u 126 :: u 127 :: u 128 :: u 129 :: u 130 :: u 131 :: u 132 :: u 133 :: u 134 :: u 135 :: u 136 :: u 137 :: u 138 :: u 139 :: u 140 :: u 141 :: u 142 :: u 143 :: u 144 :: u 145 :: u 146 :: u 147 :: u 148 :: u 149 :: u 150 :: u 151 :: u 152 :: u 153 :: u 154 :: u 155 :: u 156 :: u 157 :: u 158 :: u 159 :: u 160 :: u 161 :: u 162 :: u 163 :: u 164 :: u 165 :: u 166 :: u 167 :: u 168 :: u 169 :: u 170 :: u 171 :: u 172 :: u 173 :: u 174 :: u 175 :: u 176 :: u 177 :: u 178 :: u 179 :: u 180 :: u 181 :: u 182 :: u 183 :: u 184 :: u 185 :: u 186 :: u 187 :: u 188 :: u 189 :: u 190 :: u 191 :: u 192 :: u 193 :: u 194 :: u 195 :: u 196 :: u 197 :: u 198 :: u 199 :: u 200 :: u 201 :: u 202 :: u 203 :: u 204 :: u 205 :: u 206 :: u 207 :: u 208 :: u 209 :: u 210 :: u 211 :: u 212 :: u 213 :: u 214 :: u 215 :: u 216 :: u 217 :: u 218 :: u 219 :: u 220 :: u 221 :: []), defers := [] }) nd
    ⟨0, u, ⟨rfl, Fr.refl _ _⟩, rfl⟩ ?_
  rintro n a' w' ⟨i, u, ⟨hn, f⟩, rfl⟩ J K hJ hK
  have HJ := Kp.mk hJ
  have HK := Kp.mk hK
  have F := Kp.mk f
  have HN := Kp.mk hn
  clear hJ hK hn f
  by_cases hlt : i < nd
  · have hltz : (i : Int) < (nd : Int) := by omega
    obtain ⟨y, hy⟩ : ∃ y, Lb[i]? = some y := ⟨_, List.getElem?_eq_getElem (by have := HND.out; omega)⟩
    obtain ⟨bD, rfl, hcell⟩ := (HDK.out.no F.out).at_ hy
    obtain ⟨b2, e2, hall⟩ := (HAK.out.no F.out).at_ ((HRK.out i).trans hy)
    obtain rfl : bA = b2 := by injection e2 with e2; injection e2
    obtain ⟨KK, HH, CC, hyl⟩ := stepL_is y
    rw [hyl] at hcell hall
    have q0 := hcell 0 _ (by decide) rfl
    have q1 := hcell 1 _ (by decide) rfl
    have q2 := hcell 2 _ (by decide) rfl
    have q3 := hcell 3 _ (by decide) rfl
    have q4 := hcell 4 _ (by decide) rfl
    have q5 := hcell 5 _ (by decide) rfl
    have q6 := hcell 6 _ (by decide) rfl
    have q7 := hcell 7 _ (by decide) rfl
    have q8 := hcell 8 _ (by decide) rfl
    have q9 := hcell 9 _ (by decide) rfl
    have q10 := hcell 10 _ (by decide) rfl
    have q11 := hcell 11 _ (by decide) rfl
    rw [Nat.add_zero] at q0
    have l0 := hall 0 _ (by decide) rfl
    have l1 := hall 1 _ (by decide) rfl
    have l2 := hall 2 _ (by decide) rfl
    have l3 := hall 3 _ (by decide) rfl
    have l4 := hall 4 _ (by decide) rfl
    have l5 := hall 5 _ (by decide) rfl
    have l6 := hall 6 _ (by decide) rfl
    have l7 := hall 7 _ (by decide) rfl
    have l8 := hall 8 _ (by decide) rfl
    have l9 := hall 9 _ (by decide) rfl
    have l10 := hall 10 _ (by decide) rfl
    have l11 := hall 11 _ (by decide) rfl
    rw [Nat.add_zero] at l0
    have hw1 : wrap64 ((na : Int) + (i : Int)) = ((na + i : Nat) : Int) := by have := HNA.out; have := HA2.out; unfold wrap64; omega
    have hi0 : (0 : Int) ≤ (i : Int) := by omega
    have hi1 : (0 : Int) ≤ ((na + i : Nat) : Int) := by omega
    have hi2 : ((na + i : Nat) : Int) < (nA : Int) := by have := HNA.out; omega
    have hw2 : wrap64 ((i : Int) + 1) = (i : Int) + 1 := by have := HNA.out; have := HA2.out; unfold wrap64; omega
    clear hcell hall hy hyl
    go_wp2_with fail
    go_quiet (fail)
    go_wp2_with fail
    rw [hw2]
    refine HK.out _ _ (Handed.intro (n - 1) (by have := HN.out; omega) (HJ.out _ _ _ ⟨i + 1, ex_u ⟨by have := HN.out; omega, F.out.drewN _⟩ rfl⟩))
  · have hltz : ¬ (i : Int) < (nd : Int) := by omega
    go_wp2_with fail
    exact K_u (K := Q .normal) (fun u => HQ.out u _ F.out) rfl
end Go.Proofs.Ytioohhekamjljaa.Wk

/- WireSteps' great test. Conditions: sizes are bounded, as written out. -/
set_option linter.unusedSimpArgs false
set_option linter.unusedVariables false
namespace Go.Proofs.Ytioohhekamjljaa.Wk
open Go Go.RowKit Go.Proofs.YtioohhekamjljaaW.PrintWords Go.Proofs.YtioohhekamjljaaW.PrintLast Go.Proofs.Ytioohhekamjljaa.Ev Go.Proofs.Ytioohhekamjljaa.Reg Go.Proofs.Ytioohhekamjljaa.Sha Go.Proofs.Ytioohhekamjljaa.Sb Go.Proofs.Ytioohhekamjljaa.Crc Go.Proofs.Ytioohhekamjljaa.Wi
set_option maxHeartbeats 16000000 in
set_option maxRecDepth 100000 in
theorem steps_test (W : World) (u : Nat → Value) (h : Hd) (l : List Cm) (A Aa Ad : Option Addr) (c g g3 gq nl na ca nd cd bA nA cA : Nat) (s : B) (hA : nA ≤ 1000002) (hnl : nl = l.length) (hnA : nA = nl + 2) (hna : na + nd = nA) (b3 : Blk W g3 23 (hdL h)) (HA : StR W (some ⟨bA, 0, none⟩) (allS h l))
    (CR : Kp (∀ n, Calls Try.prog 22 #[.pointer (some ⟨g, 0, none⟩)] (W.drewN n) fun e w' => e = .returned (.bool true) ∧ w' = W.drewN n)) (CQ : Kp (∀ n, Calls Try.prog 22 #[.pointer (some ⟨gq, 0, none⟩)] (W.drewN n) fun e w' => e = .returned (.bool true) ∧ w' = W.drewN n))
    (Q : Exit → Act → World → Prop) (hQ : ∀ (u : Nat → Value) n, Q .normal { tmps := List.toArray (u 0 :: .slice A nl c :: u 2 :: u 3 :: u 4 :: u 5 :: u 6 :: .string (bs s) :: u 8 :: .pointer (some ⟨g, 0, none⟩) :: u 10 :: .slice Aa na ca :: u 12 :: u 13 :: .pointer (some ⟨gq, 0, none⟩) :: u 15 :: u 16 :: u 17 :: .slice Ad nd cd :: u 19 :: .slice (some ⟨bA, 0, none⟩) nA cA :: u 21 :: u 22 :: u 23 :: u 24 :: u 25 :: u 26 :: u 27 :: u 28 :: u 29 :: u 30 :: u 31 :: u 32 :: u 33 :: u 34 :: u 35 :: u 36 :: u 37 :: u 38 :: u 39 :: u 40 :: u 41 :: u 42 :: u 43 :: u 44 :: u 45 :: u 46 :: u 47 :: u 48 :: u 49 :: u 50 :: u 51 :: u 52 :: u 53 :: u 54 :: u 55 :: u 56 :: u 57 :: u 58 :: u 59 :: u 60 :: u 61 :: u 62 :: u 63 :: u 64 :: u 65 :: u 66 :: u 67 :: u 68 :: u 69 :: u 70 :: u 71 :: u 72 :: u 73 :: u 74 :: u 75 :: u 76 :: u 77 :: u 78 :: u 79 :: u 80 :: u 81 :: u 82 :: u 83 :: u 84 :: u 85 :: u 86 :: u 87 :: u 88 :: u 89 :: u 90 :: u 91 :: u 92 :: u 93 :: u 94 :: u 95 :: u 96 :: u 97 :: u 98 :: u 99 :: u 100 :: u 101 :: u 102 :: u 103 :: u 104 :: u 105 :: u 106 :: u 107 :: u 108 :: u 109 :: u 110 :: u 111 :: u 112 :: u 113 :: u 114 :: u 115 :: u 116 :: u 117 :: u 118 :: u 119 :: u 120 :: u 121 :: u 122 :: u 123 :: u 124 :: u 125 :: u 126 :: u 127 :: u 128 :: u 129 :: u 130 :: u 131 :: u 132 :: u 133 :: u 134 :: u 135 :: u 136 :: u 137 :: u 138 :: u 139 :: u 140 :: u 141 :: u 142 :: u 143 :: u 144 :: u 145 :: u 146 :: u 147 :: u 148 :: u 149 :: u 150 :: u 151 :: u 152 :: u 153 :: u 154 :: u 155 :: u 156 :: u 157 :: u 158 :: u 159 :: u 160 :: u 161 :: u 162 :: u 163 :: u 164 :: u 165 :: u 166 :: u 167 :: u 168 :: u 169 :: u 170 :: u 171 :: .bool false :: u 173 :: u 174 :: u 175 :: u 176 :: u 177 :: u 178 :: u 179 :: u 180 :: u 181 :: u 182 :: u 183 :: u 184 :: u 185 :: u 186 :: u 187 :: u 188 :: u 189 :: u 190 :: u 191 :: u 192 :: u 193 :: u 194 :: u 195 :: u 196 :: u 197 :: u 198 :: u 199 :: u 200 :: u 201 :: u 202 :: u 203 :: u 204 :: u 205 :: u 206 :: u 207 :: u 208 :: u 209 :: u 210 :: u 211 :: u 212 :: u 213 :: u 214 :: u 215 :: u 216 :: u 217 :: u 218 :: u 219 :: u 220 :: u 221 :: []), defers := [] } (W.drewN n)) :
    Code.wp Try.prog (sub [1,1,1,1,1,1,1,1,1,1,1,1,1,1,0,0] bodySteps) Q { tmps := List.toArray (u 0 :: .slice A nl c :: u 2 :: .pointer (some ⟨g3, 0, none⟩) :: u 4 :: u 5 :: u 6 :: .string (bs s) :: u 8 :: .pointer (some ⟨g, 0, none⟩) :: u 10 :: .slice Aa na ca :: u 12 :: u 13 :: .pointer (some ⟨gq, 0, none⟩) :: u 15 :: u 16 :: .int .i64 0 :: .slice Ad nd cd :: .int .i64 0 :: .slice (some ⟨bA, 0, none⟩) nA cA :: u 21 :: u 22 :: u 23 :: u 24 :: u 25 :: u 26 :: u 27 :: u 28 :: u 29 :: u 30 :: u 31 :: u 32 :: u 33 :: u 34 :: u 35 :: u 36 :: u 37 :: u 38 :: u 39 :: u 40 :: u 41 :: u 42 :: u 43 :: u 44 :: u 45 :: u 46 :: u 47 :: u 48 :: u 49 :: u 50 :: u 51 :: u 52 :: u 53 :: u 54 :: u 55 :: u 56 :: u 57 :: u 58 :: u 59 :: u 60 :: u 61 :: u 62 :: u 63 :: u 64 :: u 65 :: u 66 :: u 67 :: u 68 :: u 69 :: u 70 :: u 71 :: u 72 :: u 73 :: u 74 :: u 75 :: u 76 :: u 77 :: u 78 :: u 79 :: u 80 :: u 81 :: u 82 :: u 83 :: u 84 :: u 85 :: u 86 :: u 87 :: u 88 :: u 89 :: u 90 :: u 91 :: u 92 :: u 93 :: u 94 :: u 95 :: u 96 :: u 97 :: u 98 :: u 99 :: u 100 :: u 101 :: u 102 :: u 103 :: u 104 :: u 105 :: u 106 :: u 107 :: u 108 :: u 109 :: u 110 :: u 111 :: u 112 :: u 113 :: u 114 :: u 115 :: u 116 :: u 117 :: u 118 :: u 119 :: u 120 :: u 121 :: u 122 :: u 123 :: u 124 :: u 125 :: u 126 :: u 127 :: u 128 :: u 129 :: u 130 :: u 131 :: u 132 :: u 133 :: u 134 :: u 135 :: u 136 :: u 137 :: u 138 :: u 139 :: u 140 :: u 141 :: u 142 :: u 143 :: u 144 :: u 145 :: u 146 :: u 147 :: u 148 :: u 149 :: u 150 :: u 151 :: u 152 :: u 153 :: u 154 :: u 155 :: u 156 :: u 157 :: u 158 :: u 159 :: u 160 :: u 161 :: u 162 :: u 163 :: u 164 :: u 165 :: u 166 :: u 167 :: u 168 :: u 169 :: u 170 :: u 171 :: u 172 :: u 173 :: u 174 :: u 175 :: u 176 :: u 177 :: u 178 :: u 179 :: u 180 :: u 181 :: u 182 :: u 183 :: u 184 :: u 185 :: u 186 :: u 187 :: u 188 :: u 189 :: u 190 :: u 191 :: u 192 :: u 193 :: u 194 :: u 195 :: u 196 :: u 197 :: u 198 :: u 199 :: u 200 :: u 201 :: u 202 :: u 203 :: u 204 :: u 205 :: u 206 :: u 207 :: u 208 :: u 209 :: u 210 :: u 211 :: u 212 :: u 213 :: u 214 :: u 215 :: u 216 :: u 217 :: u 218 :: u 219 :: u 220 :: u 221 :: []), defers := [] } W := by
  conv => arg 2; whnf
  have HQ := Kp.mk hQ
  obtain ⟨b0, e0, hc0⟩ := HA.at_ (allS_0 h l)
  obtain rfl : bA = b0 := by injection e0 with e0; injection e0
  obtain ⟨b1, e1, hc1⟩ := HA.at_ (allS_last h l)
  obtain rfl : bA = b1 := by injection e1 with e1; injection e1
  have q0 := hc0 0 _ (by decide) rfl
  have q1 := hc0 1 _ (by decide) rfl
  have q2 := hc0 2 _ (by decide) rfl
  have q3 := hc0 3 _ (by decide) rfl
  have l0 := hc1 0 _ (by decide) rfl
  rw [Nat.zero_mul, Nat.zero_add] at q0 q1 q2 q3
  rw [Nat.add_zero, ← hnl] at l0
  have d0 := b3.at_ 0 rfl
  have d1 := b3.at_ 1 rfl
  have d2 := b3.at_ 2 rfl
  have hw1 : wrap64 ((nl : Int) + 2) = (nA : Int) := by unfold wrap64; omega
  have hw2 : wrap64 ((nA : Int) - (na : Int)) = (nd : Int) := by unfold wrap64; omega
  have hw3 : wrap64 ((nA : Int) - 1) = ((nl + 1 : Nat) : Int) := by unfold wrap64; omega
  have k0 : (0 : Int) < (nA : Int) := by omega
  have k1 : (0 : Int) ≤ ((nl + 1 : Nat) : Int) := by omega
  have k2 : ((nl + 1 : Nat) : Int) < (nA : Int) := by omega
  clear hQ HA hnl hnA hna hA b3 hc0 hc1
  go_quiet ((first | (go_at_call 22; (with_reducible exact Calls.quiet_of_same (CR.out _))) | (go_at_call 22; (with_reducible exact Calls.quiet_of_same (CQ.out _)))))
  go_wp2_with fail
  exact K_u (K := fun a w' => Q .normal a w') (fun u => HQ.out u _) rfl
end Go.Proofs.Ytioohhekamjljaa.Wk

/- Two readers in memory, side by side; rows of steps put one behind the other; the law's Few once more. Conditions: sizes are bounded, as written out. -/
set_option linter.unusedSimpArgs false
set_option linter.unusedVariables false
namespace Go.Proofs.Ytioohhekamjljaa.Wk
open Go Go.RowKit Go.Proofs.YtioohhekamjljaaW.PrintWords Go.Proofs.YtioohhekamjljaaW.PrintLast Go.Proofs.Ytioohhekamjljaa.Ev Go.Proofs.Ytioohhekamjljaa.Reg Go.Proofs.Ytioohhekamjljaa.Sha Go.Proofs.Ytioohhekamjljaa.Sb Go.Proofs.Ytioohhekamjljaa.Crc Go.Proofs.Ytioohhekamjljaa.Wi
/-- The blocks of a reader. -/
abbrev Rs (g gr : Nat) (v : Value) : Nat → Prop := fun k => k = g ∨ k = gr ∨ Own v k
theorem RdM.lt {w : World} {base g gr : Nat} {R : Rd} {p v : Value} {te : Int} (M : RdM w base g gr R p v te) {k : Nat} (h : Rs g gr v k) : k < w.heap.size := by
  rcases h with rfl | rfl | h
  · exact M.bf.blk.lt
  · exact M.rd.lt
  · rcases M.bf.own.2 with ⟨hv, _⟩ | ⟨g', cap, cur, fz, hv, hb, hg, _⟩
    · rw [hv] at h; simp [Own, Value.ownBlock] at h
    · rw [hv] at h
      simp [Own, Value.ownBlock] at h
      subst h
      exact (Array.getElem?_eq_some_iff.1 hg).1
theorem RdM.keep {w w1 : World} {base g gr : Nat} {R : Rd} {p v : Value} {te : Int} {S : Nat → Prop} (M : RdM w base g gr R p v te) (f : Fr S w w1) (hn : ∀ k, Rs g gr v k → ¬ S k) : RdM w1 base g gr R p v te :=
  ⟨M.bf.keep f (hn _ (.inl rfl)) (fun k hk => hn k (.inr (.inr hk))), M.rd.keep f (hn _ (.inr (.inl rfl))), M.te⟩
theorem few_is (l : List Cm) (hl : l.length ≤ 9223372036854775807) : ∃ z, (z = true → l.length ≤ 150) ∧ ∀ (A : Option Addr) (cap : Nat) (w : World), CmS w A l → l.length ≤ cap → Calls Try.prog 8 #[.slice A l.length cap] w fun e w' => e = .returned (.bool z) ∧ Fr No w w' := by
  obtain ⟨z, e, hz⟩ := few_l0 (l.map toS) (by rw [List.length_map]; exact hl) l.length (l.length + 1) 0 0 (by decide) (by decide) (by decide) (by rw [List.length_map]; omega) (by omega)
  refine ⟨z, fun h => by have := hz h; omega, fun A cap w h hc => ?_⟩
  have := PWireTells.snapferrylaw13_Few.calls (l.length + 1) A cap (l.map toS) z w (c58_of h hl) (by rw [List.length_map]; exact hc) e
  rw [List.length_map] at this
  exact this.mono fun e' w' ⟨h1, h2⟩ => ⟨h1, Fr.of_below h2⟩
theorem StR.of {w : World} {base n c : Nat} {A : Option Addr} {L : List St} (h : w.ownsRow base 60 12 (.slice A n c) n (stepsL L)) (hn : n = L.length) : StR w A L := ⟨fun h0 => by
  obtain ⟨b, rfl⟩ := row_some' h (by omega)
  refine ⟨b, rfl, ?_, row_cell h⟩
  obtain ⟨cells, hcb⟩ := own_typed h b rfl
  exact (Array.getElem?_eq_some_iff.1 hcb).1⟩
theorem stepsL_app (a b : List St) : stepsL (a ++ b) = stepsL a ++ stepsL b := by simp [stepsL]
theorem stepsL_all (a : List St) : ∀ u ∈ stepsL a, u.oneCell' = true := by
  intro u hu
  obtain ⟨y, _, hu⟩ := List.mem_flatMap.1 hu
  exact stepL_all y u hu
section
variable {P : Program} {ops : Array Oper} {rest : List Oper} {o : Oper} {a : Act} {Q : Exit → Act → World → Prop} {W : World}
/-- 'append(v, x...)', v in a block of the call's own, x a row. -/
theorem ev_cat (hgd : o.guard = none) (s x : Operand) (t e : TypeId) (z : Value) (size bytes : Nat)
    (ho : o.op = .call { callee := .builtin .append, args := #[s, x], argTypes := #[t, t] })
    (ht : P.underlying t = some (.slice e)) (hinfo : (P.info? e).map (fun i => (i.zero, i.size, i.bytes)) = some (some z, size, bytes)) (hz : z.cells.size = size) (hsz : 0 < size) (hb0 : 0 < bytes)
    (base g n c : Nat) (xs : List Value) (hs : a.eval s = .slice (some ⟨g, 0, none⟩) n c) (hown : W.ownsRow base e size (.slice (some ⟨g, 0, none⟩) n c) n xs) (hbase : base ≤ W.heap.size)
    (base2 m cx : Nat) (xp : Option Addr) (news : List Value) (hx : a.eval x = .slice xp m cx) (hown2 : W.ownsRow base2 e size (.slice xp m cx) m news) (h1 : ∀ u ∈ news, u.oneCell' = true)
    (hbytes : (n + m) * bytes ≤ 140737488355328) (nk : Nat) (hnk : n + m = nk) (ys : List Value) (hys : xs ++ news = ys)
    (h : ∀ g' c' w1, w1.ownsRow base e size (.slice (some ⟨g', 0, none⟩) nk c') nk ys → Fr (One g) W w1 → (g' = g ∨ W.heap.size ≤ g') → wpList P ops Q rest (a.put o.dst (.slice (some ⟨g', 0, none⟩) nk c')) w1) : wpList P ops Q (o :: rest) a W := by
  subst hnk hys
  have hx1 : news.length = m * size := by simpa using hown2.1
  by_cases hm : m = 0
  · subst hm
    have hnw : news = [] := List.eq_nil_of_length_eq_zero (by omega)
    subst hnw
    obtain ⟨i0, hi, hzz⟩ := Option.map_eq_some_iff.1 hinfo
    simp only [Prod.mk.injEq] at hzz
    have hxl : xs.length = n * size := by simpa using hown.1
    rcases hown.2 with ⟨hv, _⟩ | ⟨b, cap, cur, hv, hbg, hg, hnc, hcm, hcs, htake⟩
    · cases hv
    · injection hv with hv1 hv2 hv3
      injection hv1 with hv1
      injection hv1 with hv1
      subst hv1 hv3
      refine ev_append_room hgd s x t e ho ht size (by rw [hi]; simp [hzz.2.1]) g 0 n c xp 0 cx (n + 0) rfl hs hx e cur.toList ⟨by simpa using hg⟩ [] (by simp) (fun hp => by simp at hp) (by simp) (by omega) (by simp; rw [hcs]; exact Nat.mul_le_mul_right _ hnc) ?_
      intro w1 f1 b1
      rw [List.append_nil, List.length_nil, Nat.add_zero, List.take_append_drop] at b1
      refine h g c w1 ?_ f1 (.inl rfl)
      rw [List.append_nil]
      exact ⟨hown.1, .inr ⟨g, c, cur, rfl, hbg, by have := b1.out; simpa using this, hnc, hcm, hcs, htake⟩⟩
  · obtain ⟨b, rfl⟩ := row_some' hown2 (by omega)
    refine ev_append hgd s x t e z size bytes ho ht hinfo hz hsz hb0 base _ n xs hs hown hbase ⟨b, 0, none⟩ m cx news hx hx1 (fun j u hu => by rw [Addr.add_lit, Nat.zero_add]; exact row_cell hown2 j u hu) h1 hbytes ?_
    intro A c' w1 o1 f1 hat
    obtain ⟨g', rfl⟩ := row_some' o1 (by omega)
    refine h g' c' w1 o1 (f1.mono (fun k hk => by simp [Own, Value.ownBlock] at hk; exact .inl hk.symm)) ?_
    rcases hat with hat | ⟨b', hb', hle⟩
    · simp [Value.ownBlock] at hat
      exact .inl hat
    · simp [Value.ownBlock] at hb'
      subst hb'
      exact .inr hle
end
/-- What WireSteps has made when its readers were fed. -/
structure Tw (lo : Nat) (h : Hd) (Rb Rq : Rd) (La Lb : List St) (g3 g gr gq grq b1 b2 b3' b4 b5 ca cb cd : Nat) (pb vb pq vq : Value) (tb tq : Int) (Aa Ab Ad : Option Addr) (w : World) : Prop where
  hd : Blk w g3 23 (hdL h)
  hdlt : g3 < lo
  r : RdM w b1 g gr Rb pb vb tb
  rlt : ∀ kk, Rs g gr vb kk → kk < lo
  q : RdM w b2 gq grq Rq pq vq tq
  qlt : ∀ kk, Rs gq grq vq kk → kk < lo
  ra : w.ownsRow b3' 60 12 (.slice Aa La.length ca) La.length (stepsL La)
  ralt : ∀ kk, Own (.slice Aa La.length ca) kk → kk < lo
  rb : w.ownsRow b4 60 12 (.slice Ab Lb.length cb) Lb.length (stepsL Lb)
  rblt : ∀ kk, Own (.slice Ab Lb.length cb) kk → kk < lo
  rd : w.ownsRow b5 60 12 (.slice Ad Lb.length cd) Lb.length (stepsL Lb)
  rdlt : ∀ kk, Own (.slice Ad Lb.length cd) kk → kk < lo
theorem Tw.keep {lo : Nat} {h : Hd} {Rb Rq : Rd} {La Lb : List St} {g3 g gr gq grq b1 b2 b3' b4 b5 ca cb cd : Nat} {pb vb pq vq : Value} {tb tq : Int} {Aa Ab Ad : Option Addr} {w w1 : World} {S : Nat → Prop}
    (T : Tw lo h Rb Rq La Lb g3 g gr gq grq b1 b2 b3' b4 b5 ca cb cd pb vb pq vq tb tq Aa Ab Ad w) (f : Fr S w w1) (hn : ∀ kk, S kk → lo ≤ kk) : Tw lo h Rb Rq La Lb g3 g gr gq grq b1 b2 b3' b4 b5 ca cb cd pb vb pq vq tb tq Aa Ab Ad w1 :=
  ⟨T.hd.keep f (fun hh => by have := hn _ hh; have := T.hdlt; omega), T.hdlt, T.r.keep f (fun kk hk hh => by have := hn _ hh; have := T.rlt _ hk; omega), T.rlt, T.q.keep f (fun kk hk hh => by have := hn _ hh; have := T.qlt _ hk; omega), T.qlt,
    own_keep T.ra f (fun kk hk hh => by have := hn _ hh; have := T.ralt _ hk; omega), T.ralt, own_keep T.rb f (fun kk hk hh => by have := hn _ hh; have := T.rblt _ hk; omega), T.rblt, own_keep T.rd f (fun kk hk hh => by have := hn _ hh; have := T.rdlt _ hk; omega), T.rdlt⟩
theorem own_lt {w : World} {base size n : Nat} {e : TypeId} {v : Value} {cs : List Value} (h : w.ownsRow base e size v n cs) : ∀ kk, Own v kk → kk < w.heap.size := fun kk hk => by
  obtain ⟨cells, hcb⟩ := own_typed h kk hk
  exact (Array.getElem?_eq_some_iff.1 hcb).1
end Go.Proofs.Ytioohhekamjljaa.Wk

/- The law WireSteps: it answers true. No conditions beside those written out. -/
set_option linter.unusedSimpArgs false
set_option linter.unusedVariables false
namespace Go.Proofs.Ytioohhekamjljaa.Wk
open Go Go.RowKit Go.Proofs.YtioohhekamjljaaW.PrintWords Go.Proofs.YtioohhekamjljaaW.PrintLast Go.Proofs.Ytioohhekamjljaa.Ev Go.Proofs.Ytioohhekamjljaa.Reg Go.Proofs.Ytioohhekamjljaa.Sha Go.Proofs.Ytioohhekamjljaa.Sb Go.Proofs.Ytioohhekamjljaa.Crc Go.Proofs.Ytioohhekamjljaa.Wi

set_option maxHeartbeats 16000000 in
set_option maxRecDepth 100000 in
theorem steps_any (h : Hd) (l : List Cm) (A : Option Addr) (cap : Nat) (cut : Int) (W : World) (hL : CmS W A l) (hcap : l.length ≤ cap) (hl : l.length ≤ 9223372036854775807) :
    Calls Try.prog 6 #[hdV h, .slice A l.length cap, .int .i64 cut] W fun e w' => e = .returned (.bool true) ∧ Fr No W w' := by
  have HL := Kp.mk hL
  obtain ⟨z, hz, hfew⟩ := few_is l hl
  have CF := Kp.mk hfew
  have hps : (bs h.parent).size = h.parent.length := bs_size _
  have hcs : (bs h.child).size = h.child.length := bs_size _
  clear hfew hL
  by_cases hp : 100 < h.parent.length
  · have hpz : ((100 : Int) < (h.parent.length : Int)) := by omega
    go_enter Try.func6, Try.ntmps6
    go_wp2_with (first
      | ((with_reducible refine gate_dst (N := 3) rfl ?_); go_must (refine ev_box rfl 23 _ rfl _ rfl (hdL h) rfl ?_); intro g3 w0 hg3 f0 b3; have F := f0)
      | (go_at_call 7; refine (awake_any _).mono ?_; rintro e w1 ⟨rfl, fa⟩; have b3 := b3.no fa; have F := F.no fa; have c0 := b3.at_ 0 rfl; have c1 := b3.at_ 1 rfl))
    go_ret
    exact ⟨rfl, F⟩
  by_cases hc : 100 < h.child.length
  · have hpz : ¬ ((100 : Int) < (h.parent.length : Int)) := by omega
    have hcz : ((100 : Int) < (h.child.length : Int)) := by omega
    go_enter Try.func6, Try.ntmps6
    go_wp2_with (first
      | ((with_reducible refine gate_dst (N := 3) rfl ?_); go_must (refine ev_box rfl 23 _ rfl _ rfl (hdL h) rfl ?_); intro g3 w0 hg3 f0 b3; have F := f0)
      | (go_at_call 7; refine (awake_any _).mono ?_; rintro e w1 ⟨rfl, fa⟩; have b3 := b3.no fa; have F := F.no fa; have c0 := b3.at_ 0 rfl; have c1 := b3.at_ 1 rfl))
    go_ret
    exact ⟨rfl, F⟩
  have hpz : ¬ ((100 : Int) < (h.parent.length : Int)) := by omega
  have hcz : ¬ ((100 : Int) < (h.child.length : Int)) := by omega
  cases z with
  | false =>
    clear hz
    go_enter Try.func6, Try.ntmps6
    go_wp2_with (first
      | ((with_reducible refine gate_dst (N := 3) rfl ?_); go_must (refine ev_box rfl 23 _ rfl _ rfl (hdL h) rfl ?_); intro g3 w0 hg3 f0 b3; have F := f0)
      | (go_at_call 7; refine (awake_any _).mono ?_; rintro e w1 ⟨rfl, fa⟩; have b3 := b3.no fa; have F := F.no fa; have c0 := b3.at_ 0 rfl; have c1 := b3.at_ 1 rfl)
      | (go_at_call 8; refine (CF.out _ _ _ (HL.out.no F) hcap).mono ?_; rintro e w2 ⟨rfl, ff⟩; have b3 := b3.no ff; have F := F.no ff))
    go_ret
    exact ⟨rfl, F⟩
  | true =>
    have hl150 := hz rfl
    clear hz
    by_cases hk0 : cut < 0
    · go_enter Try.func6, Try.ntmps6
      go_wp2_with (first
        | ((with_reducible refine gate_dst (N := 3) rfl ?_); go_must (refine ev_box rfl 23 _ rfl _ rfl (hdL h) rfl ?_); intro g3 w0 hg3 f0 b3; have F := f0)
        | (go_at_call 7; refine (awake_any _).mono ?_; rintro e w1 ⟨rfl, fa⟩; have b3 := b3.no fa; have F := F.no fa; have c0 := b3.at_ 0 rfl; have c1 := b3.at_ 1 rfl)
        | (go_at_call 8; refine (CF.out _ _ _ (HL.out.no F) hcap).mono ?_; rintro e w2 ⟨rfl, ff⟩; have b3 := b3.no ff; have F := F.no ff))
      go_ret
      exact ⟨rfl, F⟩
    have HEN := encR_is h l (by omega) (by omega) (by omega)
    by_cases hbad : (encR h l).2 ≠ 0
    · obtain ⟨E, hE⟩ : ∃ E, encR h l = E := ⟨_, rfl⟩
      have CE : Kp (∀ w', CmS w' A l → Calls Try.prog 9 #[hdV h, .slice A l.length cap] w' fun e w'' => e = .returned (.tuple #[.string (bs E.1), .int .i64 E.2]) ∧ Fr No w' w'') := ⟨fun w' hc => by
        have := encode_any h A cap l w' hc (by omega) (by omega) (by omega)
        rw [hE] at this
        exact this⟩
      rw [hE] at hbad
      obtain ⟨E1, E2⟩ := E
      have hb2 : ¬ E2 = 0 := hbad
      clear HEN hbad hE hp hc
      go_enter Try.func6, Try.ntmps6
      go_wp2_with (first
        | ((with_reducible refine gate_dst (N := 3) rfl ?_); go_must (refine ev_box rfl 23 _ rfl _ rfl (hdL h) rfl ?_); intro g3 w0 hg3 f0 b3; have F := f0)
        | (go_at_call 7; refine (awake_any _).mono ?_; rintro e w1 ⟨rfl, fa⟩; have b3 := b3.no fa; have F := F.no fa; have c0 := b3.at_ 0 rfl; have c1 := b3.at_ 1 rfl)
        | (go_at_call 8; refine (CF.out _ _ _ (HL.out.no F) hcap).mono ?_; rintro e w2 ⟨rfl, ff⟩; have b3 := b3.no ff; have F := F.no ff)
        | ((with_reducible refine gate_dst (N := 45) rfl ?_); go_must (refine ev_load_row rfl 23 _ rfl g3 rfl 23 _ b3 _ Try.underlying23 rfl sizeHead ?_))
        | (go_at_call 9; refine (CE.out _ (HL.out.no F)).mono ?_; rintro e we ⟨rfl, fe⟩; have b3 := b3.no fe; have F := F.no fe))
      go_ret
      exact ⟨rfl, F⟩
    have he2 : (encR h l).2 = 0 := Classical.not_not.1 hbad
    have hok : (okH h && l.all rightC) = true ∧ (streamP dg h l).length ≤ 65536 := by
      rw [HEN] at he2
      by_cases h1 : (okH h && l.all rightC) = true
      · rw [if_pos h1] at he2
        by_cases h2 : (streamP dg h l).length ≤ 65536
        · exact ⟨h1, h2⟩
        · rw [if_neg h2] at he2; cases he2
      · rw [if_neg h1] at he2; cases he2
    obtain ⟨hok1, hok2⟩ := hok
    rw [if_pos hok1, if_pos hok2] at HEN
    rw [Bool.and_eq_true] at hok1
    have KS : OkS dg h l := ⟨hok1.1, List.all_eq_true.1 hok1.2, by omega, by rw [dg_len]; decide⟩
    have hs0 : 0 < (streamP dg h l).length := by rw [streamP_eq, List.length_append, rec_len]; omega
    obtain ⟨k, hk, hk1⟩ : ∃ k : Nat, (k : Int) = cut % ((streamP dg h l).length : Int) ∧ k < (streamP dg h l).length := by
      have h1 := Int.emod_nonneg cut (b := ((streamP dg h l).length : Int)) (by omega)
      have h2 := Int.emod_lt_of_pos cut (b := ((streamP dg h l).length : Int)) (by omega)
      exact ⟨(cut % ((streamP dg h l).length : Int)).toNat, by omega, by omega⟩
    have hrem : Int.tmod cut ((streamP dg h l).length : Int) = (k : Int) := by rw [Int.tmod_eq_emod_of_nonneg (by omega)]; exact hk.symm
    obtain ⟨n, Ra, Rb, Rn, Rq, La, Lb, hT⟩ := two_pieces KS hok2 hk1
    obtain ⟨s, hs⟩ : ∃ s, streamP dg h l = s := ⟨_, rfl⟩
    rw [hs] at hT HEN hrem hk1 hok2 hs0
    have hnk := hT.le
    have T := Kp.mk hT
    have hkz : ¬ (k : Int) < (n : Int) := by omega
    have hsz : ¬ (s.length : Int) = 0 := by omega
    have hss : (bs s).size = s.length := bs_size _
    have S1 := sl_to s k k rfl (by omega)
    have S2 := sl_from s k k rfl (by omega)
    have S3 := sl_to s n n rfl (by omega)
    have S4 := sl_from s n n rfl (by omega)
    have HOV : Kp ((Ra.d.over && decide (Ra.err = 0)) = false) := ⟨by rw [hT.ova]; rfl⟩
    have hlab := hT.okA
    have HLA : Kp (La.length ≤ 200 ∧ Lb.length ≤ 200) := ⟨by omega⟩
    obtain ⟨nA, hnA⟩ : ∃ nA, La.length + Lb.length = nA := ⟨_, rfl⟩
    have HNA := Kp.mk hnA
    have HNL : Kp (nA = l.length + 2) := ⟨by omega⟩
    have CE : Kp (∀ w', CmS w' A l → Calls Try.prog 9 #[hdV h, .slice A l.length cap] w' fun e w'' => e = .returned (.tuple #[.string (bs s), .int .i64 0]) ∧ Fr No w' w'') := ⟨fun w' hc => by
      have := encode_any h A cap l w' hc (by omega) (by omega) (by omega)
      rw [HEN] at this
      exact this⟩
    have CR : Kp (∀ w', Calls Try.prog 18 #[.string (bs (s.take n))] w' fun e w'' => ∃ gq grq pq vq tq, e = .returned (.tuple #[.pointer (some ⟨gq, 0, none⟩), .int .i64 0]) ∧ NewR w' w'' Rn gq grq pq vq tq ∧ Fr No w' w'') := ⟨fun w' => by
      have := resume_ok (s.take n) (by rw [List.length_take]; omega) w' hT.res
      rw [hT.fn] at this
      exact this⟩
    clear HEN he2 hbad hp hc hT hs hk KS hlab hnA hok1 hs0 hk1 hnk
    go_enter Try.func6, Try.ntmps6
    go_wp2_with (first
      | ((with_reducible refine gate_dst (N := 3) rfl ?_); go_must (refine ev_box rfl 23 _ rfl _ rfl (hdL h) rfl ?_); intro g3 w0 hg3 f0 b3; have F := f0)
      | (go_at_call 7; refine (awake_any _).mono ?_; rintro e w1 ⟨rfl, fa⟩; have b3 := b3.no fa; have F := F.no fa; have c0 := b3.at_ 0 rfl; have c1 := b3.at_ 1 rfl)
      | (go_at_call 8; refine (CF.out _ _ _ (HL.out.no F) hcap).mono ?_; rintro e w2 ⟨rfl, ff⟩; have b3 := b3.no ff; have F := F.no ff)
      | ((with_reducible refine gate_dst (N := 45) rfl ?_); go_must (refine ev_load_row rfl 23 _ rfl g3 rfl 23 _ b3 _ Try.underlying23 rfl sizeHead ?_))
      | (go_at_call 9; refine (CE.out _ (HL.out.no F)).mono ?_; rintro e we ⟨rfl, fe⟩; have b3 := b3.no fe; have F := F.no fe)
      | (go_at_call 16; go_must (refine (wnew_any _).mono ?_); rintro e w7 ⟨g, gr, rfl, hg, hgr, hM, f7⟩; have hWg := Nat.le_trans F.size hg; have hWgr := Nat.le_trans F.size hgr; have b3 := b3.no f7; have F := F.no f7; have F7 := f7.size)
      | (go_at_call 19; refine (wfeed_any (s.take k) hM (fun _ => okRd0) (by rw [List.length_take]; omega) F7).mono ?_; rintro e w8 ⟨Aa, ca, pa, va, ta, rfl, rowA, hM1, f8, at1⟩; rw [T.out.fa] at rowA hM1; rw [T.out.fa]; have b3 := blk_feed hM b3 (by decide) (by decide) (by decide) f8; have HVA : Kp (∀ k, Own va k → W.heap.size ≤ k) := ⟨fun k hk => by rcases at1_own at1 hk with hq | hq; simp [Own, Value.ownBlock] at hq; exact Nat.le_trans F.size hq⟩; have F := F.trans f8 (fun i hi => by rcases hi with rfl | rfl | hi; exact .inr hWg; exact .inr hWgr; simp [Own, Value.ownBlock] at hi); have F8 := Nat.le_trans F7 f8.size; clear hM)
      | (go_at_call 19; refine (wfeed_any (s.drop k) hM1 (fun _ => T.out.oka) (by rw [List.length_drop]; omega) F8).mono ?_; rintro e w11 ⟨Ab, cb, pb, vb, tb, rfl, rowB, hM2, f11, at2⟩; rw [T.out.fb] at rowB hM2; rw [T.out.fb]; have b3 := blk_feed hM1 b3 (by decide) (by decide) (by decide) f11; have rowA := row_feed hM1 rowA (by decide) (by decide) (by decide) f11; have AP2 : Kp (∀ kk, Rs g gr vb kk → ¬ Rs gq grq vq kk) := ⟨fun kk hr hq => by have h1 := hMq.lt hq; have h2 := AP.out kk hq; rcases hr with rfl | rfl | hr; exact h2 (.inl rfl); exact h2 (.inr (.inl rfl)); (rcases at1_own at2 hr with hx | hx; exact h2 (.inr (.inr hx)); omega)⟩; have hMq := hMq.keep f11 AP.out; have F := F.trans f11 (fun i hi => by rcases hi with rfl | rfl | hi; exact .inr hWg; exact .inr hWgr; exact .inr (HVA.out _ hi)); have FQ := Nat.le_trans FQ f11.size; clear hM1)
      | (go_at_call 19; refine (wfeed_any (s.drop n) hMq (fun _ => T.out.okn) (by rw [List.length_drop]; omega) FQ).mono ?_; rintro e w12 ⟨Ad, cd, pd, vd, td, rfl, rowD, hMq2, f12, at3⟩; rw [T.out.fq] at rowD hMq2; rw [T.out.fq]; have b3 := blk_feed hMq b3 (by decide) (by decide) (by decide) f12; have rowA := row_feed hMq rowA (by decide) (by decide) (by decide) f12; have rowB := row_feed hMq rowB (by decide) (by decide) (by decide) f12; have hM2 := hM2.keep f12 AP2.out; have F := F.trans f12 (fun i hi => .inr (HVQ.out i hi)); have TW := Tw.mk b3 b3.lt hM2 (fun kk => hM2.lt) hMq2 (fun kk => hMq2.lt) rowA (own_lt rowA) rowB (own_lt rowB) rowD (own_lt rowD); clear b3 rowA rowB rowD hM2 hMq hMq2)
      | (go_at_call 21; go_must (refine (taken_any hM1).mono ?_); rintro e wt ⟨rfl, hwt⟩; subst hwt; rw [T.out.at_])
      | (go_at_call 22; go_must (refine (over_any hM1).mono ?_); rintro e wo ⟨rfl, hwo⟩; subst hwo; rw [HOV.out])
      | (go_at_call 18; refine (CR.out _).mono ?_; rintro e wr ⟨gq, grq, pq, vq, tq, rfl, NQ, frr⟩; have AP : Kp (∀ kk, Rs gq grq vq kk → ¬ Rs g gr va kk) := ⟨fun kk hq hr => by have h1 := hM1.lt hr; rcases hq with rfl | rfl | hq; exact absurd NQ.g (by omega); exact absurd NQ.gr (by omega); exact absurd (NQ.v _ hq) (by omega)⟩; have HVQ : Kp (∀ kk, Rs gq grq vq kk → W.heap.size ≤ kk) := ⟨fun kk hq => by rcases hq with rfl | rfl | hq; exact Nat.le_trans F.size NQ.g; exact Nat.le_trans F.size NQ.gr; exact Nat.le_trans F.size (NQ.v _ hq)⟩; have hMq := NQ.m; have FQ := frr.size; have b3 := b3.no frr; have hM1 := hM1.no frr; have rowA := own_no rowA frr; have F := F.no frr; have F8 := Nat.le_trans F8 frr.size)
      | ((with_reducible refine gate_dst (N := 109) rfl ?_); refine ev_lit rfl 60 [] 0 (by first | (go_simp; done) | (go_simp; rfl)) ?_; intro gl wl hgl fl bl; have rowL : wl.ownsRow W.heap.size 60 12 (.slice (some ⟨gl, 0, none⟩) 0 0) 0 [] := bl.owns rfl (by decide) (Nat.le_trans F.size hgl); have TW := TW.keep fl (fun _ hh => hh.elim); have hgW := Nat.le_trans F.size hgl; have F := F.no fl; have HLO := fl.size)
      | ((with_reducible refine gate_dst (N := 111) rfl ?_); refine ev_cat rfl _ _ 52 60 _ 12 128 rfl Try.underlying52 infoStep rfl (by decide) (by decide) W.heap.size gl 0 0 [] rfl rowL F.size _ La.length ca Aa (stepsL La) rfl TW.ra (stepsL_all _) (by have := HLA.out; omega) La.length (Nat.zero_add _) (stepsL La) rfl ?_; intro gc cc wc rowC fc hgc; have TW := TW.keep fc (fun kk hh => by have hh : kk = gl := hh; omega); have hgc2 : w12.heap.size ≤ gc := (by rcases hgc with e | e <;> omega); have hgc3 : W.heap.size ≤ gc := own_base rowC gc rfl; have F := F.trans fc (fun i hi => .inr (by have hi : i = gl := hi; omega)))
      | ((with_reducible refine gate_dst (N := 113) rfl ?_); refine ev_cat rfl _ _ 52 60 _ 12 128 rfl Try.underlying52 infoStep rfl (by decide) (by decide) W.heap.size gc La.length cc (stepsL La) rfl rowC F.size _ Lb.length cb Ab (stepsL Lb) rfl TW.rb (stepsL_all _) (by have := HLA.out; omega) nA HNA.out (stepsL (allS h l)) (by rw [← stepsL_app, T.out.all]) ?_; intro gd dd wd rowE fd hgd; have TW := TW.keep fd (fun kk hh => by have hh : kk = gc := hh; omega); have F := F.trans fd (fun i hi => .inr (by have hi : i = gc := hi; omega))))
    have HA : StR wd (some ⟨gd, 0, none⟩) (allS h l) := StR.of rowE (by rw [HNL.out, allS]; simp)
    have HB : StR wd Ad Lb := StR.of TW.rd rfl
    have hvr : (Rb.d.over && decide (Rb.err = 0)) = true := by rw [T.out.db, T.out.erb]; rfl
    have hvq : (Rq.d.over && decide (Rq.err = 0)) = true := by rw [T.out.dq, T.out.erq]; rfl
    have CVR : Kp (∀ n, Calls Try.prog 22 #[.pointer (some ⟨g, 0, none⟩)] (wd.drewN n) fun e w' => e = .returned (.bool true) ∧ w' = wd.drewN n) := ⟨fun n => by
      have := over_any (TW.r.no ((Fr.refl No wd).drewN n))
      rw [hvr] at this
      exact this⟩
    have CVQ : Kp (∀ n, Calls Try.prog 22 #[.pointer (some ⟨gq, 0, none⟩)] (wd.drewN n) fun e w' => e = .returned (.bool true) ∧ w' = wd.drewN n) := ⟨fun n => by
      have := over_any (TW.q.no ((Fr.refl No wd).drewN n))
      rw [hvq] at this
      exact this⟩
    refine wp_u (fun u => steps_test wd u h l A Aa Ad cap g g3 gq l.length La.length ca Lb.length cd gd nA dd s (by have := HNL.out; omega) rfl HNL.out HNA.out TW.hd HA CVR CVQ _ ?_) rfl
    intro u nq
    simp only [Exit.then]
    refine ‹∀ (a : Act) (w : World), Code.wp Try.prog _ _ a w → _› _ _ ?_
    have fq := (Fr.refl No wd).drewN nq
    go_upto_block 0 with fail
    refine wp_u (fun u => steps_loop1 (wd.drewN nq) u h l A Aa Ad cap g gq La.length ca Lb.length cd gd nA dd s (by omega) HNL.out (HL.out.no (F.no fq)) (HA.no fq) _ ?_) rfl
    intro u ws fs
    simp only [Exit.then]
    refine ‹∀ (a : Act) (w : World), Code.wp Try.prog _ _ a w → _› _ _ ?_
    have fs := fq.no fs
    go_upto_block 2 with fail
    refine wp_u (fun u => steps_loop2 ws u (allS h l) Lb A Aa Ad cap g gq l.length La.length ca Lb.length cd gd nA dd s (by have := HNL.out; omega) rfl HNA.out (HB.no fs) (HA.no fs) T.out.rest _ ?_) rfl
    intro u wt ft
    simp only [Exit.then]
    refine ‹∀ (a : Act) (w : World), Code.wp Try.prog _ _ a w → _› _ _ ?_
    have ft := fs.no ft
    have MR := TW.r.no ft
    have hdb : (Rb.d.at_ : Int) = (s.length : Int) := by rw [T.out.db]
    go_wp2_with (go_at_call 21; go_must (refine (taken_any MR).mono ?_); rintro e wz ⟨rfl, hwz⟩; subst hwz; rw [hdb])
    go_ret
    exact ⟨rfl, F.no ft⟩
end Go.Proofs.Ytioohhekamjljaa.Wk

/- A stream's head and commands as arguments, opened. No conditions beside those written out. -/
set_option linter.unusedSimpArgs false
set_option linter.unusedVariables false
namespace Go.Proofs.Ytioohhekamjljaa.Wk
open Go Go.Joins Go.ChangeShapes Go.WideShapes Go.RowKit Go.Deep Go.Proofs.Ytioohhekamjljaa.Ev Go.Proofs.Ytioohhekamjljaa.Wi Go.Proofs.Ytioohhekamjljaa.Crc Go.Proofs.Ytioohhekamjljaa.Sb

section
variable {H : Type} {enc : TypeId × Value → H} {P : Program} {w : World} {base : Nat} {spare : Nat → Bool} {held : Bool}
theorem open_slice_fields {t e : TypeId} {fs : Array Field} {fuel : Nat} {cs : List Value} {x : DataW H × List MemPlace} (ht : P.underlying t = some (.slice e)) (he : P.underlying e = some (.struct fs))
    (hone : oneCellFields P fs = true) (hC : P.cellsOf e = fs.size) (h : DataW.trod enc P w base spare held fuel t cs = some x) :
    (cs = [.slice none 0 0] ∧ x = (.nil, [])) ∨
    ∃ (a : Addr) (len cap m : Nat) (D : Nat → DataW H) (Pl : Nat → List MemPlace), cs = [.slice (some a) len cap] ∧ base ≤ a.block ∧ len ≤ cap ∧ cap ≤ maxLen ∧ m = (if spare a.block then cap else len) ∧
      x = (.slice ((List.range len).map D) ((List.range (m - len)).map fun j => D (len + j)), MemPlace.row a (m * fs.size) ++ (List.range m).flatMap Pl) ∧
      ∀ i, i < m → ∃ (ys : List (DataW H × List MemPlace)) (n : Nat), D i = .agg (ys.map (·.1)) ∧ Pl i = ys.flatMap (·.2) ∧ ys.length = fs.size ∧
        ∀ (j : Nat) (f : Field), fs[j]? = some f → ∃ (v : Value) (y : DataW H × List MemPlace), w.cell? (a.add (i * fs.size + j)) = some v ∧ ys[j]? = some y ∧ DataW.trod enc P w base spare held n f.type [v] = some y := by
  rcases open_slice ht h with h0 | ⟨a, len, cap, m, n, D, Pl, hcs, hb, hl, hm, hmm, hx, hi⟩
  · exact .inl h0
  · refine .inr ⟨a, len, cap, m, D, Pl, hcs, hb, hl, hm, hmm, by rw [hC] at hx; exact hx, fun i him => ?_⟩
    obtain ⟨cs', hc, ht'⟩ := hi i him
    rw [hC] at hc
    obtain ⟨ys, n', hn', hy, hlen, hyl, hf⟩ := DataW.trod_struct he ht'
    obtain ⟨_, hcl, hat⟩ := World.cells?_some hc
    simp only [Prod.mk.injEq] at hy
    refine ⟨ys, n', hy.1, hy.2, hyl, fun j f hj => ?_⟩
    obtain ⟨ho, hk⟩ := hone_of hone j f hj
    have hjl : j < fs.size := (Array.getElem?_eq_some_iff.1 hj).1
    have hcell := hat j hjl
    have hv : cs'[j]? = some (cs'[j]'(by omega)) := List.getElem?_eq_getElem (by omega)
    have h1 := hf j f hj
    rw [ho, hk] at h1
    have hone' : (cs'.drop j).take 1 = [cs'[j]'(by omega)] := by
      rw [List.drop_eq_getElem_cons (by omega)]
      rfl
    rw [hone'] at h1
    have hys : ys[j]? = some (ys[j]'(by omega)) := List.getElem?_eq_getElem (by omega)
    refine ⟨_, _, ?_, hys, h1.trans hys⟩
    rw [← Go.Deep.add_add, hcell, hv]
end


section
variable {H : Type} {enc : TypeId × Value → H} {P : Program} {w : World} {base : Nat} {spare : Nat → Bool} {held : Bool}
theorem open_agg3 {r : Reach} {b0 : Nat} {t : TypeId} {f0 f1 f2 : Field} {v : Value} {d : DataW H} {p : List MemPlace} (hs : P.underlying t = some (.struct #[f0, f1, f2])) (hone : oneCellFields P #[f0, f1, f2] = true) (hC : P.cellsOf t = 3)
    (hv : Value.okWide P w r b0 t v) (h : DataW.Trod enc P w base spare held t v d p) :
    ∃ (v0 v1 v2 : Value) (y0 y1 y2 : DataW H × List MemPlace) (n : Nat), v = .agg #[v0, v1, v2] ∧ d = .agg [y0.1, y1.1, y2.1] ∧ p = y0.2 ++ (y1.2 ++ y2.2) ∧
      DataW.trod enc P w base spare held n f0.type [v0] = some y0 ∧ DataW.trod enc P w base spare held n f1.type [v1] = some y1 ∧ DataW.trod enc P w base spare held n f2.type [v2] = some y2 := by
  obtain ⟨cs, rfl, hsz⟩ := okWide_struct hs hv
  obtain ⟨l⟩ := cs
  match l, hsz.trans hC with
  | [c0, c1, c2], _ =>
    obtain ⟨fuel, hf⟩ := h
    obtain ⟨xs, n, _, hx, _, hlen, hg⟩ := DataW.trod_struct hs hf
    obtain ⟨o0, k0⟩ := hone_of hone 0 f0 rfl
    obtain ⟨o1, k1⟩ := hone_of hone 1 f1 rfl
    obtain ⟨o2, k2⟩ := hone_of hone 2 f2 rfl
    match xs, hlen with
    | [y0, y1, y2], _ =>
      simp only [Prod.mk.injEq] at hx
      exact ⟨c0, c1, c2, y0, y1, y2, n, rfl, by simpa using hx.1, by simpa using hx.2, by simpa [Value.cells, o0, k0] using hg 0 f0 rfl, by simpa [Value.cells, o1, k1] using hg 1 f1 rfl, by simpa [Value.cells, o2, k2] using hg 2 f2 rfl⟩
end

section
variable {H : Type} {enc : TypeId × Value → H} {w : World} {base : Nat} {spare : Nat → Bool} {held : Bool}
set_option maxRecDepth 100000 in
theorem open_head {r : Reach} {b0 : Nat} {v : Value} {d : DataW H} {p : List MemPlace} (hv : Value.okWide Try.prog w r b0 23 v) (h : DataW.Trod enc Try.prog w base spare held 23 v d p) : ∃ h : Hd, v = hdV h := by
  obtain ⟨v0, v1, v2, y0, y1, y2, n, rfl, _, _, h0, h1, h2⟩ := open_agg3 Try.underlying23 (by kernel_rfl) (by kernel_rfl) hv h
  obtain ⟨dd, hd, _, _⟩ := DataW.trod_string Try.underlying9 h0
  obtain ⟨tt, ht, _, _⟩ := DataW.trod_string Try.underlying9 h1
  obtain ⟨k, hk, _, _⟩ := DataW.trod_int Try.underlying3 h2
  simp only [List.cons.injEq, and_true] at hk hd ht
  subst hk hd ht
  exact ⟨⟨dd.data.toList, tt.data.toList, k⟩, rfl⟩
set_option maxRecDepth 100000 in
theorem open_cmds {len cap : Nat} {A : Option Addr} {d : DataW H} {p : List MemPlace} (h : DataW.Trod enc Try.prog w base spare held 24 (.slice A len cap) d p) :
    ∃ l : List Cm, l.length = len ∧ CmS w A l ∧ len ≤ cap ∧ len ≤ 9223372036854775807 := by
  obtain ⟨fuel, h4⟩ := h
  rcases open_slice_fields Try.underlying24 Try.underlying58 (by kernel_rfl) (by kernel_rfl) h4 with ⟨hc, _⟩ | ⟨a, len, cap, mm, D, Pl, hc, _, hl, hmx, hmm, _, hi⟩
  · simp [Value.cells] at hc
    obtain ⟨rfl, rfl, rfl⟩ := hc
    exact ⟨[], rfl, ⟨fun h0 => by simp at h0⟩, Nat.le_refl _, by decide⟩
  · simp [Value.cells] at hc
    obtain ⟨rfl, rfl, rfl⟩ := hc
    have hlm : len ≤ mm := by rw [hmm]; split <;> omega
    have hcell : ∀ i, i < len → ∃ c : Cm, ∀ j u, (cmL c)[j]? = some u → w.cell? (a.add (i * 8 + j)) = some u := fun i hil => by
      obtain ⟨ys, n', _, _, _, hf⟩ := hi i (by omega)
      obtain ⟨u0, z0, hc0, _, ht0⟩ := hf 0 _ rfl
      obtain ⟨u1, z1, hc1, _, ht1⟩ := hf 1 _ rfl
      obtain ⟨u2, z2, hc2, _, ht2⟩ := hf 2 _ rfl
      obtain ⟨u3, z3, hc3, _, ht3⟩ := hf 3 _ rfl
      obtain ⟨u4, z4, hc4, _, ht4⟩ := hf 4 _ rfl
      obtain ⟨u5, z5, hc5, _, ht5⟩ := hf 5 _ rfl
      obtain ⟨u6, z6, hc6, _, ht6⟩ := hf 6 _ rfl
      obtain ⟨u7, z7, hc7, _, ht7⟩ := hf 7 _ rfl
      obtain ⟨k0, e0, _, _⟩ := DataW.trod_int Try.underlying3 ht0
      obtain ⟨k1, e1, _, _⟩ := DataW.trod_int Try.underlying3 ht1
      obtain ⟨k2, e2, _, _⟩ := DataW.trod_int Try.underlying3 ht2
      obtain ⟨k3, e3, _, _⟩ := DataW.trod_int Try.underlying3 ht3
      obtain ⟨k4, e4, _, _⟩ := DataW.trod_int Try.underlying3 ht4
      obtain ⟨k5, e5, _, _⟩ := DataW.trod_int Try.underlying3 ht5
      obtain ⟨s6, e6, _, _⟩ := DataW.trod_string Try.underlying9 ht6
      obtain ⟨s7, e7, _, _⟩ := DataW.trod_string Try.underlying9 ht7
      simp only [List.cons.injEq, and_true] at e0 e1 e2 e3 e4 e5 e6 e7
      subst e0 e1 e2 e3 e4 e5 e6 e7
      refine ⟨⟨k0, k1, k2, k3, k4, k5, s6.data.toList, s7.data.toList⟩, fun j u hu => ?_⟩
      match j with
      | 0 => simp [cmL] at hu; subst hu; exact hc0
      | 1 => simp [cmL] at hu; subst hu; exact hc1
      | 2 => simp [cmL] at hu; subst hu; exact hc2
      | 3 => simp [cmL] at hu; subst hu; exact hc3
      | 4 => simp [cmL] at hu; subst hu; exact hc4
      | 5 => simp [cmL] at hu; subst hu; exact hc5
      | 6 => simp [cmL] at hu; subst hu; exact hc6
      | 7 => simp [cmL] at hu; subst hu; exact hc7
      | j + 8 => simp [cmL] at hu
    have hch : ∃ f : Nat → Cm, ∀ i, i < len → ∀ j u, (cmL (f i))[j]? = some u → w.cell? (a.add (i * 8 + j)) = some u :=
      ⟨fun i => if h : i < len then (hcell i h).choose else zeroC, fun i hil => by simp only [dif_pos hil]; exact (hcell i hil).choose_spec⟩
    obtain ⟨f, hf⟩ := hch
    refine ⟨(List.range len).map f, by simp, ⟨fun h0 => ?_⟩, hl, Nat.le_trans hl (by simpa [maxLen] using hmx)⟩
    have h0 : 0 < len := by simpa using h0
    obtain ⟨b, o, sp⟩ := a
    have h00 := hf 0 h0 0 _ rfl
    cases sp with
    | some q =>
      exfalso
      simp [World.cell?, Addr.add] at h00
      try (split at h00 <;> simp_all)
    | none =>
      refine ⟨b, o, rfl, ?_, fun j c hj i u hu => ?_⟩
      · rw [Addr.add_lit] at h00
        exact World.block_lt_of_cell? w _ h00
      · rw [List.getElem?_map] at hj
        obtain ⟨q, hq, rfl⟩ := Option.map_eq_some_iff.1 hj
        obtain ⟨hq1, hq2⟩ := List.getElem?_eq_some_iff.1 hq
        simp at hq1 hq2
        subst hq2
        have := hf j hq1 i u hu
        rw [Addr.add_lit, ← Nat.add_assoc] at this
        exact this
end
end Go.Proofs.Ytioohhekamjljaa.Wk

/- The row WireSteps. No conditions beside the statement's own. -/
set_option linter.unusedSimpArgs false
set_option linter.unusedVariables false
namespace Go.Proofs.Ytioohhekamjljaa
open Go.ChangeShapes Go.WideShapes Go.ChangeAt Go.RowKit

theorem Try.own : ownKnob Try.prog.godebug = none := by kernel_rfl
theorem Try.laidOut : laidOutB Try.prog = true := by kernel_rfl

set_option maxRecDepth 100000 in
theorem wireSteps_lifted (os : Os) (started : os.Started) (H : Type) (enc : TypeId × Value → H) :
    ReturnsInHanded {} Try.checked os 6 .any (Rows.wireStepsSpec.pre6 enc Try.prog Try.f6 Rows.wireStepsRow.domain false) (Rows.wireStepsSpec.post enc Try.prog Try.f6 false true false false) := by
  refine returnsInHanded_of_change_sized (C := Try.checked) Try.own started (by kernel_rfl) Try.func6
    (ChangeSpec.witness6 (enc := enc) (C := Try.checked) false ⟨#[], #[.agg #[.string ⟨#[]⟩, .string ⟨#[]⟩, .int .i64 0], .slice none 0 0, .int .i64 0], []⟩ 8 (by kernel_rfl) (by kernel_rfl) (by kernel_rfl) (by kernel_rfl)) ?_
  intro W base args ds gs before hval0 hW _ hsz0 _
  clear hsz0
  have hval : ∀ (j : Nat) t v, Try.f6.params[j]? = some t → args[j]? = some v → Value.okWide Try.prog W .any base t v := hval0
  have hW' := hW
  obtain ⟨p, q, hA0, hV, rfl, _, _⟩ := hW
  have hA : DataW.TrodAll enc Try.prog W 0 (fun _ => true) true Try.f6.params.toList args.toList ds p := hA0
  rw [Try.params6] at hA hval
  obtain ⟨v0, v1, v2, d0, d1, d2, p0, p1, p2, rfl, rfl, rfl, h0, h1, h2⟩ := trodAll_three hA
  obtain ⟨rfl, rfl⟩ := trodVars_none hV
  obtain ⟨h, rfl⟩ := Wk.open_head (hval 0 23 v0 rfl rfl) h0
  obtain ⟨a1, len, cap, rfl⟩ := okWide_slice Try.underlying24 (hval 1 24 v1 rfl rfl)
  obtain ⟨cut, rfl, rfl, rfl, wi⟩ := open_int Try.underlying3 (hval 2 3 v2 rfl rfl) h2
  obtain ⟨l, hlen, hC, hcap, hmax⟩ := Wk.open_cmds h1
  subst hlen
  have hlt : ∀ z ∈ p0 ++ p1, z.block < W.heap.size := fun z hz => by simpa using hW'.lt z (by simpa using hz)
  have k0 : ∀ (W' : World), Below W.heap.size W W' → DataW.Trod enc Try.prog W' 0 (fun b => decide (b < W.heap.size)) true 23 (Wk.hdV h) d0 p0 :=
    fun W' hn => Below.trod Try.laidOut (by kernel_rfl) (of_decide_eq_true (by kernel_rfl)) h0 hn (fun z hz => hlt z (by simp [hz]))
  have k1 : ∀ (W' : World), Below W.heap.size W W' → DataW.Trod enc Try.prog W' 0 (fun b => decide (b < W.heap.size)) true 24 (.slice a1 l.length cap) d1 p1 :=
    fun W' hn => Below.trod Try.laidOut (by kernel_rfl) (of_decide_eq_true (by kernel_rfl)) h1 hn (fun z hz => hlt z (by simp [hz]))
  refine (Wk.steps_any h l a1 cap cut W hC hcap hmax).mono fun e W' ⟨he, hf⟩ => ?_
  subst he
  have hnx := hf.below
  refine ⟨_, rfl, _, _, _, [], p0 ++ (p1 ++ []), [], hW', ?_, trodAll_mk3 (k0 _ hnx) (k1 _ hnx) (shut_int Try.underlying3 wi), rfl, hnx.frame _, fun h => by cases h⟩
  exact trodAll_mk1 (shut_bool Try.underlying4 true)

theorem wireSteps_holds : Rows.WireStepsSaid :=
  OpenClaim.holds_of_wide 6 Try.f6 rfl rfl rfl rfl rfl rfl rfl ⟨rfl, rfl, rfl, rfl, rfl⟩ rfl rfl rfl rfl rfl (by kernel_rfl) Try.func6 (by kernel_rfl)
    (of_decide_eq_true (by kernel_rfl)) (by unfold Func.isWrapper; first | (rw [if_pos (by decide +kernel)]; kernel_rfl) | (rw [if_neg (by decide +kernel)]; exact ⟨rfl, rfl⟩))
    (fun os started H enc _ => wireSteps_lifted os started H enc)
end Go.Proofs.Ytioohhekamjljaa
