/- Texts joined by merge.py: PlSpoilt, PlSpoilt2, PlSpoilt3, PlSpoiltAny, PlSpRow. -/
import Derived.Test.YtaohfmmapammcaaPlE
import Derived.ChangeMaps
/- The law PlateSpoilt: its parts. Conditions: sizes are bounded, as written out. -/
set_option linter.unusedSimpArgs false
set_option linter.unusedVariables false
namespace Go.Proofs.Ytaohfmmapammcaa.Pl
open Go Go.RowKit Go.Proofs.YtaohfmmapammcaaW.PrintWords Go.Proofs.YtaohfmmapammcaaW.PrintLast Go.Proofs.Ytaohfmmapammcaa.Sha Go.Proofs.Ytaohfmmapammcaa.Dig Go.Proofs.Ytaohfmmapammcaa.Ev Go.Proofs.Ytaohfmmapammcaa.Reg Go.Proofs.Ytaohfmmapammcaa.Ch

noncomputable def bodySp : Code := Try.f4.body.getD .skip
/-- A disk to which i sectors were written. -/
structure Wk (D : DiskS) (i : Nat) : Prop where
  up : D.down = false
  cut : D.cutAt = 0
  pos : 0 ≤ D.count
  cnt : D.count ≤ i
  wl : D.wait.length ≤ i
  w32 : ∀ x ∈ D.wait, x.2.length = 32
  full : ∀ a s, D.lasts a = some s → s.length = 32
  size : D.size = 8
theorem Wk.new : Wk (newD 8) 0 := ⟨rfl, rfl, Int.le_refl _, Int.le_refl _, Nat.le_refl _, (fun _ h => by cases h), (fun _ _ h => by cases h), rfl⟩
theorem Wk.more {D : DiskS} {i : Nat} (h : Wk D i) : Wk D (i + 1) := ⟨h.up, h.cut, h.pos, by have := h.cnt; omega, by have := h.wl; omega, h.w32, h.full, h.size⟩
theorem Wk.write {D : DiskS} {i : Nat} (h : Wk D i) (a : Int) (d : B) (hd : d.length ≤ 32) : Wk (countD (waitD D a d)) (i + 1) :=
  ⟨h.up, h.cut, by have := h.pos; show 0 ≤ D.count + 1; omega, by have := h.cnt; show D.count + 1 ≤ _; omega, by have := h.wl; show (D.wait ++ _).length ≤ _; simp; omega, fun x hx => by
    have hx : x ∈ D.wait ++ [(a, padL d)] := hx
    rcases List.mem_append.1 hx with h1 | h1
    · exact h.w32 x h1
    · have : x = (a, padL d) := by simpa using h1
      rw [this]; exact padL_len d hd, h.full, h.size⟩
theorem fold_full : ∀ (l : List (Int × B)) (f : Int → Option B), (∀ a s, f a = some s → s.length = 32) → (∀ x ∈ l, x.2.length = 32) → ∀ a s, (l.foldl put1 f) a = some s → s.length = 32
  | [], f, hf, _ => hf
  | x :: l, f, hf, hl => by
    rw [List.foldl_cons]
    refine fold_full l _ (fun a s hs => ?_) (fun y hy => hl y (by simp [hy]))
    unfold put1 at hs
    by_cases e : a = x.1
    · rw [if_pos e] at hs; cases hs; exact hl x (by simp)
    · rw [if_neg e] at hs; exact hf a s hs
theorem Wk.flush {D : DiskS} {i : Nat} (h : Wk D i) : flushD D = (lastD (countD D), 0) ∧ OkD (lastD (countD D)) ∧ (lastD (countD D)).size = 8 ∧ (lastD (countD D)).count ≤ i + 1 :=
  ⟨flush_ok h.up h.cut h.pos, ⟨h.up, h.cut, rfl, by have := h.pos; show 0 ≤ D.count + 1; omega, fold_full _ _ h.full h.w32⟩, h.size, by have := h.cnt; show D.count + 1 ≤ _; omega⟩

set_option maxHeartbeats 4000000 in
set_option maxRecDepth 100000 in
theorem wr_any {w : World} {S : Nat → Prop} {b m : Nat} {D : DiskS} (h : Dk w S b m D) (i : Nat) (hw : Wk D i) (hi : i < 8) (x : B) (hx : x.length ≤ 1099511627776000) :
    Calls Try.prog 20 #[.pointer (some ⟨b, 0, none⟩), .int .i64 (i : Int), .string (bs x)] w fun e w' => ∃ v D', e = .returned v ∧ Dk w' S b m D' ∧ Wk D' (i + 1) ∧ Fr S w w' := by
  have ha : askedD D (i : Int) = 0 := by
    unfold askedD
    rw [hw.up, if_neg (by decide), if_neg (by omega), if_neg (by rw [hw.size]; omega)]
  by_cases hd : x.length ≤ 32
  · have h1 := write_any h (i : Int) x hw.pos (by have := hw.cnt; omega) (by have := hw.wl; omega) (by omega)
    rw [write_ok hw.up hw.cut hw.pos (i : Int) x (by omega) (by rw [hw.size]; omega) hd] at h1
    exact h1.mono fun e w' ⟨he, hk, hf⟩ => ⟨_, _, he, hk, hw.write (i : Int) x hd, hf⟩
  · have hdz : (32 : Int) < (x.length : Int) := by omega
    have H := Kp.mk h
    obtain ⟨v, hv, hs⟩ := h.ex
    have CA := Kp.mk (asked_any hv (i : Int))
    rw [ha] at CA
    have hsz : (bs x).size = x.length := bs_size x
    have HW := Kp.mk hw
    clear h hs hv ha hd hw
    go_enter Try.func20, Try.ntmps20
    go_wp2_with (go_at_call 69; refine CA.out.mono ?_; rintro e w1 ⟨rfl, hww⟩; subst hww)
    go_ret
    exact ⟨_, _, rfl, H.out, HW.out.more, Fr.refl _ _⟩

/-- What the law holds between two sectors. -/
structure SpI (w w' : World) (S : Nat → Prop) (b m i : Nat) (D : DiskS) : Prop where
  disk : Dk w' S b m D
  wk : Wk D i
  fr : Fr No w w'
set_option maxHeartbeats 8000000 in
set_option maxRecDepth 100000 in
theorem sp_loop1 (w : World) (S : Nat → Prop) (A : Option Addr) (N c b m : Nat) (l : List B) (s : B) (hS : ∀ k, S k → w.heap.size ≤ k) (hN : N = l.length) (hN8 : N ≤ 8) (hX : Txts w A l) (hs : ∀ (i : Nat) (x : B), l[i]? = some x → x.length ≤ 1099511627776000) (W : World) (h0 : SpI w W S b m 0 (newD 8)) (u : Nat → Value) (Q : Exit → Act → World → Prop)
    (hQ : ∀ (u : Nat → Value) D ws, SpI w ws S b m N D → Q .normal { tmps := List.toArray (.slice A N c :: .string (bs s) :: u 2 :: u 3 :: u 4 :: .pointer (some ⟨b, 0, none⟩) :: u 6 :: u 7 :: u 8 :: u 9 :: u 10 :: u 11 :: u 12 :: u 13 :: u 14 :: u 15 :: u 16 :: u 17 :: u 18 :: u 19 :: u 20 :: u 21 :: u 22 :: u 23 :: u 24 :: u 25 :: u 26 :: u 27 :: u 28 :: u 29 :: u 30 :: u 31 :: u 32 :: u 33 :: u 34 :: u 35 :: u 36 :: u 37 :: u 38 :: u 39 :: u 40 :: u 41 :: u 42 :: u 43 :: u 44 :: u 45 :: u 46 :: u 47 :: u 48 :: u 49 :: u 50 :: u 51 :: u 52 :: u 53 :: u 54 :: u 55 :: u 56 :: u 57 :: u 58 :: u 59 :: u 60 :: u 61 :: u 62 :: u 63 :: u 64 :: u 65 :: u 66 :: u 67 :: u 68 :: u 69 :: u 70 :: u 71 :: u 72 :: u 73 :: u 74 :: u 75 :: u 76 :: u 77 :: u 78 :: u 79 :: u 80 :: u 81 :: u 82 :: u 83 :: u 84 :: u 85 :: u 86 :: u 87 :: u 88 :: u 89 :: u 90 :: u 91 :: u 92 :: u 93 :: u 94 :: u 95 :: u 96 :: u 97 :: u 98 :: u 99 :: u 100 :: u 101 :: u 102 :: u 103 :: u 104 :: u 105 :: u 106 :: u 107 :: u 108 :: u 109 :: u 110 :: u 111 :: u 112 :: u 113 :: u 114 :: u 115 :: u 116 :: u 117 :: u 118 :: u 119 :: u 120 :: u 121 :: u 122 :: u 123 :: u 124 :: u 125 :: u 126 :: u 127 :: u 128 :: u 129 :: u 130 :: u 131 :: u 132 :: u 133 :: u 134 :: u 135 :: u 136 :: u 137 :: u 138 :: u 139 :: u 140 :: u 141 :: u 142 :: u 143 :: u 144 :: u 145 :: u 146 :: u 147 :: u 148 :: u 149 :: u 150 :: u 151 :: u 152 :: u 153 :: u 154 :: u 155 :: u 156 :: u 157 :: u 158 :: u 159 :: u 160 :: u 161 :: u 162 :: u 163 :: u 164 :: u 165 :: []), defers := [] } ws) :
    Code.wp Try.prog (sub [1, 1, 1, 1, 1, 0, 1] bodySp) Q { tmps := List.toArray (.slice A N c :: .string (bs s) :: u 2 :: u 3 :: u 4 :: .pointer (some ⟨b, 0, none⟩) :: u 6 :: .int .i64 0 :: u 8 :: u 9 :: u 10 :: u 11 :: u 12 :: u 13 :: u 14 :: u 15 :: u 16 :: u 17 :: u 18 :: u 19 :: u 20 :: u 21 :: u 22 :: u 23 :: u 24 :: u 25 :: u 26 :: u 27 :: u 28 :: u 29 :: u 30 :: u 31 :: u 32 :: u 33 :: u 34 :: u 35 :: u 36 :: u 37 :: u 38 :: u 39 :: u 40 :: u 41 :: u 42 :: u 43 :: u 44 :: u 45 :: u 46 :: u 47 :: u 48 :: u 49 :: u 50 :: u 51 :: u 52 :: u 53 :: u 54 :: u 55 :: u 56 :: u 57 :: u 58 :: u 59 :: u 60 :: u 61 :: u 62 :: u 63 :: u 64 :: u 65 :: u 66 :: u 67 :: u 68 :: u 69 :: u 70 :: u 71 :: u 72 :: u 73 :: u 74 :: u 75 :: u 76 :: u 77 :: u 78 :: u 79 :: u 80 :: u 81 :: u 82 :: u 83 :: u 84 :: u 85 :: u 86 :: u 87 :: u 88 :: u 89 :: u 90 :: u 91 :: u 92 :: u 93 :: u 94 :: u 95 :: u 96 :: u 97 :: u 98 :: u 99 :: u 100 :: u 101 :: u 102 :: u 103 :: u 104 :: u 105 :: u 106 :: u 107 :: u 108 :: u 109 :: u 110 :: u 111 :: u 112 :: u 113 :: u 114 :: u 115 :: u 116 :: u 117 :: u 118 :: u 119 :: u 120 :: u 121 :: u 122 :: u 123 :: u 124 :: u 125 :: u 126 :: u 127 :: u 128 :: u 129 :: u 130 :: u 131 :: u 132 :: u 133 :: u 134 :: u 135 :: u 136 :: u 137 :: u 138 :: u 139 :: u 140 :: u 141 :: u 142 :: u 143 :: u 144 :: u 145 :: u 146 :: u 147 :: u 148 :: u 149 :: u 150 :: u 151 :: u 152 :: u 153 :: u 154 :: u 155 :: u 156 :: u 157 :: u 158 :: u 159 :: u 160 :: u 161 :: u 162 :: u 163 :: u 164 :: u 165 :: []), defers := [] } W := by
  conv => arg 2; whnf
  have HQ := Kp.mk hQ
  have HX := Kp.mk hX
  have HS := Kp.mk hs
  have HN0 := Kp.mk hN
  have HSS := Kp.mk hS
  clear hQ hX hs hN hS
  refine wp_block ?_
  refine wp_loop_ghost_k (fun n a' w' => ∃ (i : Nat) (D : DiskS) (u : Nat → Value), (n + i = N ∧ SpI w w' S b m i D) ∧ a' = { tmps := List.toArray (.slice A N c :: .string (bs s) :: u 2 :: u 3 :: u 4 :: .pointer (some ⟨b, 0, none⟩) :: u 6 :: .int .i64 (i : Int) :: u 8 :: u 9 :: u 10 :: u 11 :: u 12 :: u 13 :: u 14 :: u 15 :: u 16 :: u 17 :: u 18 :: u 19 :: u 20 :: u 21 :: u 22 :: u 23 :: u 24 :: u 25 :: u 26 :: u 27 :: u 28 :: u 29 :: u 30 :: u 31 :: u 32 :: u 33 :: u 34 :: u 35 :: u 36 :: u 37 :: u 38 :: u 39 :: u 40 :: u 41 :: u 42 :: u 43 :: u 44 :: u 45 :: u 46 :: u 47 :: u 48 :: u 49 :: u 50 :: u 51 :: u 52 :: u 53 :: u 54 :: u 55 :: u 56 :: u 57 :: u 58 :: u 59 :: u 60 :: u 61 :: u 62 :: u 63 :: u 64 :: u 65 :: u 66 :: u 67 :: u 68 :: u 69 :: u 70 :: u 71 :: u 72 :: u 73 :: u 74 :: u 75 :: u 76 :: u 77 :: u 78 :: u 79 :: u 80 :: u 81 :: u 82 :: u 83 :: u 84 :: u 85 :: u 86 :: u 87 :: u 88 :: u 89 :: u 90 :: u 91 :: u 92 :: u 93 :: u 94 :: u 95 :: u 96 :: u 97 :: u 98 :: u 99 :: u 100 :: u 101 :: u 102 :: u 103 :: u 104 :: u 105 :: u 106 :: u 107 :: u 108 :: u 109 :: u 110 :: u 111 :: u 112 :: u 113 :: u 114 :: u 115 :: u 116 :: u 117 :: u 118 :: u 119 :: u 120 :: u 121 :: u 122 :: u 123 :: u 124 :: u 125 :: u 126 :: u 127 :: u 128 :: u 129 :: u 130 :: u 131 :: u 132 :: u 133 :: u 134 :: u 135 :: u 136 :: u 137 :: u 138 :: u 139 :: u 140 :: u 141 :: u 142 :: u 143 :: u 144 :: u 145 :: u 146 :: u 147 :: u 148 :: u 149 :: u 150 :: u 151 :: u 152 :: u 153 :: u 154 :: u 155 :: u 156 :: u 157 :: u 158 :: u 159 :: u 160 :: u 161 :: u 162 :: u 163 :: u 164 :: u 165 :: []), defers := [] }) N
    ⟨0, newD 8, u, ⟨rfl, h0⟩, rfl⟩ ?_
  clear h0
  rintro n a' w' ⟨i, D, u, ⟨hn, hI⟩, rfl⟩ J K hJ hK
  have HJ := Kp.mk hJ
  have HK := Kp.mk hK
  have HN := Kp.mk hn
  have HI := Kp.mk hI
  clear hJ hK hn hI
  by_cases hlt : i < N
  · have hltz : (i : Int) < (N : Int) := by omega
    obtain ⟨x, hx⟩ : ∃ x, l[i]? = some x := ⟨_, List.getElem?_eq_getElem (by rw [← HN0.out]; exact hlt)⟩
    obtain ⟨bA, oA, rfl, hbA, hcc⟩ := HX.out.out (by rw [← HN0.out]; omega)
    have l1 := Fr.cell (hcc i x hx) HI.out.fr (fun h => h)
    have CW := Kp.mk (wr_any HI.out.disk i HI.out.wk (by omega) x (HS.out i x hx))
    clear hcc hx hbA
    go_wp2_with (go_at_call 20; refine CW.out.mono ?_; rintro e w1 ⟨v, D1, rfl, d1, k1, f1⟩)
    exact HK.out _ _ (Handed.intro (n - 1) (by have := HN.out; omega) (HJ.out _ _ _ ⟨i + 1, D1, ex_u ⟨by have := HN.out; omega, ⟨d1, k1, HI.out.fr.trans f1 (fun k h => .inr (HSS.out k h))⟩⟩ rfl⟩))
  · obtain rfl : i = N := by have := HN.out; omega
    have hltz : ¬ (i : Int) < (i : Int) := by omega
    go_wp2_with fail
    exact K_u (fun u => HQ.out u _ _ HI.out) rfl

/-! The tail: another text written, and opened again. -/
set_option maxHeartbeats 8000000 in
set_option maxRecDepth 100000 in
theorem sp_tail (w : World) (S : Nat → Prop) (A : Option Addr) (N c b m gp : Nat) (s : B) (hs : s.length ≤ 80) (hS : ∀ k, S k → w.heap.size ≤ k) (hg : w.heap.size ≤ gp) (W : World) (D : DiskS) (p : PlateS) (hD : Dk W (Less S gp) b m D) (hok : OkD D) (hz : D.size = 8) (hc : D.count ≤ 100) (hP : Blk W gp 123 (plL b p)) (hp4 : p.half = 4) (ht : Tells D.lasts p) (hf : Fr No w W) (u : Nat → Value) (Q : Exit → Act → World → Prop)
    (hQ : ∀ (u : Nat → Value) ws, Fr No w ws → Q .ret { tmps := List.toArray (.slice A N c :: .string (bs s) :: u 2 :: u 3 :: .bool true :: .pointer (some ⟨b, 0, none⟩) :: u 6 :: u 7 :: u 8 :: u 9 :: u 10 :: u 11 :: u 12 :: u 13 :: u 14 :: u 15 :: u 16 :: u 17 :: u 18 :: u 19 :: u 20 :: u 21 :: u 22 :: u 23 :: u 24 :: u 25 :: u 26 :: u 27 :: u 28 :: u 29 :: u 30 :: u 31 :: u 32 :: u 33 :: u 34 :: u 35 :: u 36 :: u 37 :: u 38 :: u 39 :: u 40 :: u 41 :: u 42 :: u 43 :: u 44 :: u 45 :: u 46 :: u 47 :: u 48 :: u 49 :: u 50 :: u 51 :: u 52 :: u 53 :: u 54 :: u 55 :: u 56 :: u 57 :: u 58 :: u 59 :: u 60 :: u 61 :: u 62 :: u 63 :: u 64 :: u 65 :: u 66 :: u 67 :: u 68 :: u 69 :: u 70 :: u 71 :: u 72 :: u 73 :: u 74 :: u 75 :: u 76 :: u 77 :: u 78 :: u 79 :: u 80 :: u 81 :: u 82 :: u 83 :: u 84 :: u 85 :: u 86 :: u 87 :: u 88 :: u 89 :: u 90 :: u 91 :: u 92 :: u 93 :: u 94 :: u 95 :: u 96 :: u 97 :: u 98 :: u 99 :: u 100 :: u 101 :: u 102 :: u 103 :: u 104 :: u 105 :: u 106 :: u 107 :: u 108 :: u 109 :: u 110 :: u 111 :: u 112 :: u 113 :: u 114 :: u 115 :: u 116 :: u 117 :: u 118 :: u 119 :: u 120 :: u 121 :: u 122 :: u 123 :: u 124 :: u 125 :: u 126 :: u 127 :: u 128 :: u 129 :: u 130 :: u 131 :: u 132 :: u 133 :: u 134 :: u 135 :: u 136 :: u 137 :: u 138 :: u 139 :: u 140 :: u 141 :: u 142 :: u 143 :: u 144 :: u 145 :: u 146 :: u 147 :: u 148 :: u 149 :: u 150 :: u 151 :: u 152 :: u 153 :: u 154 :: u 155 :: u 156 :: u 157 :: u 158 :: u 159 :: u 160 :: u 161 :: u 162 :: u 163 :: u 164 :: u 165 :: []), defers := [] } ws) :
    Code.wp Try.prog (sub [1,1,1,1,1,1,1,1,1,1] bodySp) Q { tmps := List.toArray (.slice A N c :: .string (bs s) :: u 2 :: u 3 :: u 4 :: .pointer (some ⟨b, 0, none⟩) :: u 6 :: u 7 :: .pointer (some ⟨gp, 0, none⟩) :: u 9 :: u 10 :: u 11 :: u 12 :: u 13 :: u 14 :: u 15 :: u 16 :: u 17 :: u 18 :: u 19 :: u 20 :: u 21 :: u 22 :: u 23 :: u 24 :: u 25 :: u 26 :: u 27 :: u 28 :: u 29 :: u 30 :: u 31 :: u 32 :: u 33 :: u 34 :: u 35 :: u 36 :: u 37 :: u 38 :: u 39 :: u 40 :: u 41 :: u 42 :: u 43 :: u 44 :: u 45 :: u 46 :: u 47 :: u 48 :: u 49 :: u 50 :: u 51 :: u 52 :: u 53 :: u 54 :: u 55 :: u 56 :: u 57 :: u 58 :: u 59 :: u 60 :: u 61 :: u 62 :: u 63 :: u 64 :: u 65 :: u 66 :: u 67 :: u 68 :: u 69 :: u 70 :: u 71 :: u 72 :: u 73 :: u 74 :: u 75 :: u 76 :: u 77 :: u 78 :: u 79 :: u 80 :: u 81 :: u 82 :: u 83 :: u 84 :: u 85 :: u 86 :: u 87 :: u 88 :: u 89 :: u 90 :: u 91 :: u 92 :: u 93 :: u 94 :: u 95 :: u 96 :: u 97 :: u 98 :: u 99 :: u 100 :: u 101 :: u 102 :: u 103 :: u 104 :: u 105 :: u 106 :: u 107 :: u 108 :: u 109 :: u 110 :: u 111 :: u 112 :: u 113 :: u 114 :: u 115 :: u 116 :: u 117 :: u 118 :: u 119 :: u 120 :: u 121 :: u 122 :: u 123 :: u 124 :: u 125 :: u 126 :: u 127 :: u 128 :: u 129 :: u 130 :: u 131 :: u 132 :: u 133 :: u 134 :: u 135 :: u 136 :: u 137 :: u 138 :: u 139 :: u 140 :: u 141 :: u 142 :: u 143 :: u 144 :: u 145 :: u 146 :: u 147 :: u 148 :: u 149 :: u 150 :: u 151 :: u 152 :: u 153 :: u 154 :: u 155 :: u 156 :: u 157 :: u 158 :: u 159 :: u 160 :: u 161 :: u 162 :: u 163 :: u 164 :: u 165 :: []), defers := [] } W := by
  conv => arg 2; whnf
  have HQ := Kp.mk hQ
  have HD := Kp.mk hD
  have HOK := Kp.mk hok
  have HP := Kp.mk hP
  have HT := Kp.mk ht
  have HF := Kp.mk hf
  have HS := Kp.mk hS
  have CN := Kp.mk (pnumber_any hP)
  have hpos := ht.pos
  have hsz : (bs s).size = s.length := bs_size s
  clear hQ hD hok hP ht hf hS
  by_cases hn : 2147483647 ≤ p.number
  · have CW := Kp.mk (write_full (s := s) HP.out (by omega) (by rw [hp4]; omega) hn)
    go_wp2_with (first
      | (go_at_call 23; (with_reducible refine CN.out.mono ?_); rintro e w1 ⟨rfl, hww⟩; subst hww)
      | (go_at_call 26; refine CW.out.mono ?_; rintro e w2 ⟨rfl, f2⟩))
    exact K_u (K := Q .ret) (fun u => HQ.out u _ (HF.out.no f2)) rfl
  · have hn2 : p.number < 2147483647 := by omega
    have CW := Kp.mk (write_well (s := s) HD.out HOK.out (by omega) (by rw [hp4]; exact hz) HP.out (fun h => h.2 rfl) HT.out.side hpos hn2 (by omega) (by rw [hp4]; omega))
    have AL := Kp.mk (wrote_alone HT.out s (by rw [hp4]; omega) (by omega) hn2)
    have OK1 := Kp.mk (wellD_ok HOK.out p s)
    have HH : Kp ((wroteP p s).half = 4) := ⟨hp4⟩
    clear hn
    go_wp2_with (first
      | (go_at_call 23; (with_reducible refine CN.out.mono ?_); rintro e w1 ⟨rfl, hww⟩; subst hww)
      | (go_at_call 26; refine CW.out.mono ?_; rintro e w2 ⟨rfl, d2, q2, f2⟩; have D2 := Kp.mk d2; have P2 := Kp.mk q2; clear d2 q2))
    refine (open_any D2.out OK1.out 4 hz (by decide) (by decide)).mono ?_
    rintro e w3 ⟨gq, rfl, Pq, hgq, Dq, f3⟩
    have os := open_same AL.out
    rw [HH.out] at os
    have CTq : Kp (Calls Try.prog 24 #[.pointer (some ⟨gq, 0, none⟩)] w3 fun e w' => e = .returned (.string (bs s)) ∧ w' = w3) := ⟨by
      have h := text_any Pq
      have e : (openP (wellD D p s).lasts 4).text = s := os.2
      rw [e] at h; exact h⟩
    have CNq : Kp (Calls Try.prog 23 #[.pointer (some ⟨gq, 0, none⟩)] w3 fun e w' => e = .returned (.int .i64 (p.number + 1)) ∧ w' = w3) := ⟨by
      have h := pnumber_any Pq
      have e : (openP (wellD D p s).lasts 4).number = p.number + 1 := os.1
      rw [e] at h; exact h⟩
    have CNp : Kp (Calls Try.prog 23 #[.pointer (some ⟨gp, 0, none⟩)] w3 fun e w' => e = .returned (.int .i64 (p.number + 1)) ∧ w' = w3) := ⟨pnumber_any (P2.out.no f3)⟩
    have F3 : Fr No w w3 := (HF.out.trans f2 (fun k h => h.elim (fun h => .inr (HS.out k h.1)) (fun h => .inr (by rw [h]; exact hg)))).no f3
    clear os Pq Dq
    go_wp2_with (first
      | (go_at_call 24; (with_reducible refine CTq.out.mono ?_); rintro e w11 ⟨rfl, hww⟩; subst hww)
      | (go_at_call 23; (with_reducible refine CNq.out.mono ?_); rintro e w11 ⟨rfl, hww⟩; subst hww)
      | (go_at_call 23; (with_reducible refine CNp.out.mono ?_); rintro e w11 ⟨rfl, hww⟩; subst hww))
    exact K_u (K := Q .ret) (fun u => HQ.out u _ F3) rfl
end Go.Proofs.Ytaohfmmapammcaa.Pl

/- The law PlateSpoilt: the text that a plate tells is looked for. Conditions: sizes are bounded, as written out. -/
set_option linter.unusedSimpArgs false
set_option linter.unusedVariables false
namespace Go.Proofs.Ytaohfmmapammcaa.Pl
open Go Go.RowKit Go.Proofs.YtaohfmmapammcaaW.PrintWords Go.Proofs.YtaohfmmapammcaaW.PrintLast Go.Proofs.Ytaohfmmapammcaa.Sha Go.Proofs.Ytaohfmmapammcaa.Dig Go.Proofs.Ytaohfmmapammcaa.Ev Go.Proofs.Ytaohfmmapammcaa.Reg Go.Proofs.Ytaohfmmapammcaa.Ch

set_option maxHeartbeats 8000000 in
set_option maxRecDepth 100000 in
theorem sp_inner (A : Option Addr) (N c b m gp side : Nat) (s T : B) (fb : Bool) (S : Nat → Prop) (W : World) (D : DiskS) (hD : Dk W S b m D) (hok : OkD D) (hz : D.size = 8) (hs : side ≤ 1) (u : Nat → Value) (Q : Exit → Act → World → Prop)
    (hQ : ∀ (u : Nat → Value), Q .normal { tmps := List.toArray (.slice A N c :: .string (bs s) :: u 2 :: u 3 :: u 4 :: .pointer (some ⟨b, 0, none⟩) :: u 6 :: u 7 :: .pointer (some ⟨gp, 0, none⟩) :: u 9 :: u 10 :: u 11 :: .string (bs T) :: .bool fb :: .int .i64 (side : Int) :: .string (bs (halfL D.lasts 4 side)) :: u 16 :: u 17 :: u 18 :: u 19 :: u 20 :: u 21 :: u 22 :: u 23 :: u 24 :: u 25 :: u 26 :: u 27 :: u 28 :: u 29 :: u 30 :: u 31 :: u 32 :: u 33 :: u 34 :: u 35 :: u 36 :: u 37 :: u 38 :: u 39 :: u 40 :: u 41 :: u 42 :: u 43 :: u 44 :: u 45 :: u 46 :: u 47 :: u 48 :: u 49 :: u 50 :: u 51 :: u 52 :: u 53 :: u 54 :: u 55 :: u 56 :: u 57 :: u 58 :: u 59 :: u 60 :: u 61 :: u 62 :: u 63 :: u 64 :: u 65 :: u 66 :: u 67 :: u 68 :: u 69 :: u 70 :: u 71 :: u 72 :: u 73 :: u 74 :: u 75 :: u 76 :: u 77 :: u 78 :: u 79 :: u 80 :: u 81 :: u 82 :: u 83 :: u 84 :: u 85 :: u 86 :: u 87 :: u 88 :: u 89 :: u 90 :: u 91 :: u 92 :: u 93 :: u 94 :: u 95 :: u 96 :: u 97 :: u 98 :: u 99 :: u 100 :: u 101 :: u 102 :: u 103 :: u 104 :: u 105 :: u 106 :: u 107 :: u 108 :: u 109 :: u 110 :: u 111 :: u 112 :: u 113 :: u 114 :: u 115 :: u 116 :: u 117 :: u 118 :: u 119 :: u 120 :: u 121 :: u 122 :: u 123 :: u 124 :: u 125 :: u 126 :: u 127 :: u 128 :: u 129 :: u 130 :: u 131 :: u 132 :: u 133 :: u 134 :: u 135 :: u 136 :: u 137 :: u 138 :: u 139 :: u 140 :: u 141 :: u 142 :: u 143 :: u 144 :: u 145 :: u 146 :: u 147 :: u 148 :: u 149 :: u 150 :: u 151 :: u 152 :: u 153 :: u 154 :: u 155 :: u 156 :: u 157 :: u 158 :: u 159 :: u 160 :: u 161 :: u 162 :: u 163 :: u 164 :: u 165 :: []), defers := [] } W) :
    Code.wp Try.prog (sub [1, 1, 1, 1, 1, 1, 1, 1, 1, 0, 1, 0, 1, 1, 1, 1, 0, 1, 0, 0, 1, 0, 0, 1, 0, 1] bodySp) Q { tmps := List.toArray (.slice A N c :: .string (bs s) :: u 2 :: u 3 :: u 4 :: .pointer (some ⟨b, 0, none⟩) :: u 6 :: u 7 :: .pointer (some ⟨gp, 0, none⟩) :: u 9 :: u 10 :: u 11 :: .string (bs T) :: .bool fb :: .int .i64 (side : Int) :: .string ⟨#[]⟩ :: .int .i64 0 :: u 17 :: u 18 :: u 19 :: u 20 :: u 21 :: u 22 :: u 23 :: u 24 :: u 25 :: u 26 :: u 27 :: u 28 :: u 29 :: u 30 :: u 31 :: u 32 :: u 33 :: u 34 :: u 35 :: u 36 :: u 37 :: u 38 :: u 39 :: u 40 :: u 41 :: u 42 :: u 43 :: u 44 :: u 45 :: u 46 :: u 47 :: u 48 :: u 49 :: u 50 :: u 51 :: u 52 :: u 53 :: u 54 :: u 55 :: u 56 :: u 57 :: u 58 :: u 59 :: u 60 :: u 61 :: u 62 :: u 63 :: u 64 :: u 65 :: u 66 :: u 67 :: u 68 :: u 69 :: u 70 :: u 71 :: u 72 :: u 73 :: u 74 :: u 75 :: u 76 :: u 77 :: u 78 :: u 79 :: u 80 :: u 81 :: u 82 :: u 83 :: u 84 :: u 85 :: u 86 :: u 87 :: u 88 :: u 89 :: u 90 :: u 91 :: u 92 :: u 93 :: u 94 :: u 95 :: u 96 :: u 97 :: u 98 :: u 99 :: u 100 :: u 101 :: u 102 :: u 103 :: u 104 :: u 105 :: u 106 :: u 107 :: u 108 :: u 109 :: u 110 :: u 111 :: u 112 :: u 113 :: u 114 :: u 115 :: u 116 :: u 117 :: u 118 :: u 119 :: u 120 :: u 121 :: u 122 :: u 123 :: u 124 :: u 125 :: u 126 :: u 127 :: u 128 :: u 129 :: u 130 :: u 131 :: u 132 :: u 133 :: u 134 :: u 135 :: u 136 :: u 137 :: u 138 :: u 139 :: u 140 :: u 141 :: u 142 :: u 143 :: u 144 :: u 145 :: u 146 :: u 147 :: u 148 :: u 149 :: u 150 :: u 151 :: u 152 :: u 153 :: u 154 :: u 155 :: u 156 :: u 157 :: u 158 :: u 159 :: u 160 :: u 161 :: u 162 :: u 163 :: u 164 :: u 165 :: []), defers := [] } W := by
  conv => arg 2; whnf
  have CR : Kp (∀ i : Nat, i < 4 → Calls Try.prog 25 #[.pointer (some ⟨b, 0, none⟩), .int .i64 (4 * (side : Int) + (i : Int))] W fun e w'' => e = .returned (.tuple #[.string (bs (secF D.lasts ((side * 4 + i : Nat) : Int))), .int .i64 0]) ∧ w'' = W) := ⟨fun i hi => by
    have e : 4 * (side : Int) + (i : Int) = ((side * 4 + i : Nat) : Int) := by omega
    have h := read_any hD ((side * 4 + i : Nat) : Int) (by rw [hok.quiet]; simp)
    have hrd : readD D ((side * 4 + i : Nat) : Int) = (secF D.lasts ((side * 4 + i : Nat) : Int), 0) := by
      unfold readD
      rw [if_neg (by rw [hok.asked _ (by omega) (by rw [hz]; omega)]; decide), hok.found]
    rw [hrd] at h
    rw [e]
    exact h⟩
  have HLEN := Kp.mk (half_len hok.full (side * 4))
  have HSN := Kp.mk (half_snoc D.lasts (side * 4))
  have HFF := Kp.mk (fun a => secF_len hok.full a)
  obtain ⟨R, hR⟩ : ∃ R, R = halfL D.lasts 4 side := ⟨_, rfl⟩
  rw [← hR] at hQ
  have HR := Kp.mk hR
  have HQ := Kp.mk hQ
  have s1 : (side : Int) ≤ 1 := by omega
  clear hD hok hR hQ
  refine wp_block ?_
  refine wp_loop_ghost_k (fun n a' w' => ∃ (i : Nat) (u : Nat → Value), (n + i = 4 ∧ w' = W) ∧ a' = { tmps := List.toArray (.slice A N c :: .string (bs s) :: u 2 :: u 3 :: u 4 :: .pointer (some ⟨b, 0, none⟩) :: u 6 :: u 7 :: .pointer (some ⟨gp, 0, none⟩) :: u 9 :: u 10 :: u 11 :: .string (bs T) :: .bool fb :: .int .i64 (side : Int) :: .string (bs ((List.range i).flatMap fun j => secF D.lasts ((side * 4 + j : Nat) : Int))) :: .int .i64 (i : Int) :: u 17 :: u 18 :: u 19 :: u 20 :: u 21 :: u 22 :: u 23 :: u 24 :: u 25 :: u 26 :: u 27 :: u 28 :: u 29 :: u 30 :: u 31 :: u 32 :: u 33 :: u 34 :: u 35 :: u 36 :: u 37 :: u 38 :: u 39 :: u 40 :: u 41 :: u 42 :: u 43 :: u 44 :: u 45 :: u 46 :: u 47 :: u 48 :: u 49 :: u 50 :: u 51 :: u 52 :: u 53 :: u 54 :: u 55 :: u 56 :: u 57 :: u 58 :: u 59 :: u 60 :: u 61 :: u 62 :: u 63 :: u 64 :: u 65 :: u 66 :: u 67 :: u 68 :: u 69 :: u 70 :: u 71 :: u 72 :: u 73 :: u 74 :: u 75 :: u 76 :: u 77 :: u 78 :: u 79 :: u 80 :: u 81 :: u 82 :: u 83 :: u 84 :: u 85 :: u 86 :: u 87 :: u 88 :: u 89 :: u 90 :: u 91 :: u 92 :: u 93 :: u 94 :: u 95 :: u 96 :: u 97 :: u 98 :: u 99 :: u 100 :: u 101 :: u 102 :: u 103 :: u 104 :: u 105 :: u 106 :: u 107 :: u 108 :: u 109 :: u 110 :: u 111 :: u 112 :: u 113 :: u 114 :: u 115 :: u 116 :: u 117 :: u 118 :: u 119 :: u 120 :: u 121 :: u 122 :: u 123 :: u 124 :: u 125 :: u 126 :: u 127 :: u 128 :: u 129 :: u 130 :: u 131 :: u 132 :: u 133 :: u 134 :: u 135 :: u 136 :: u 137 :: u 138 :: u 139 :: u 140 :: u 141 :: u 142 :: u 143 :: u 144 :: u 145 :: u 146 :: u 147 :: u 148 :: u 149 :: u 150 :: u 151 :: u 152 :: u 153 :: u 154 :: u 155 :: u 156 :: u 157 :: u 158 :: u 159 :: u 160 :: u 161 :: u 162 :: u 163 :: u 164 :: u 165 :: []), defers := [] }) 4
    ⟨0, u, ⟨rfl, rfl⟩, rfl⟩ ?_
  rintro n a' w' ⟨i, u, ⟨hn, rfl⟩, rfl⟩ J K hJ hK
  have HJ := Kp.mk hJ
  have HK := Kp.mk hK
  have HN := Kp.mk hn
  clear hJ hK hn
  by_cases hlt : i < 4
  · have hltz : (i : Int) < 4 := by omega
    have hl := HLEN.out i
    have hsn := Kp.mk (HSN.out i)
    have C := Kp.mk (CR.out i hlt)
    have hy32 : (secF D.lasts ((side * 4 + i : Nat) : Int)).length = 32 := HFF.out _
    generalize hX : ((List.range i).flatMap fun j => secF D.lasts ((side * 4 + j : Nat) : Int)) = X at hl hsn
    generalize secF D.lasts ((side * 4 + i : Nat) : Int) = Y at hsn C hy32
    have hxs : (bs X).size ≤ 128 := by rw [bs_size]; omega
    have hys : (bs Y).size ≤ 32 := by rw [bs_size]; omega
    have HBB := Kp.mk (bs_append X Y)
    clear hl hy32 hX
    go_wp2_with (go_at_call 25; (with_reducible refine C.out.mono ?_); rintro e w1 ⟨rfl, hww⟩; subst hww)
    exact HK.out _ _ (Handed.intro (n - 1) (by have := HN.out; omega) (HJ.out _ _ _ ⟨i + 1, ex_u ⟨by have := HN.out; omega, rfl⟩ (by rw [hsn.out, ← HBB.out]; rfl)⟩))
  · obtain rfl : i = 4 := by have := HN.out; omega
    have HE : Kp (R = ((List.range 4).flatMap fun j => secF D.lasts ((side * 4 + j : Nat) : Int))) := ⟨HR.out⟩
    rw [← HE.out]
    go_wp2_with fail
    exact K_u (fun u => HQ.out u) rfl

set_option maxHeartbeats 8000000 in
set_option maxRecDepth 100000 in
theorem sp_outer (A : Option Addr) (N c b m gp : Nat) (s T : B) (S : Nat → Prop) (W : World) (D : DiskS) (p : PlateS) (hD : Dk W S b m D) (hok : OkD D) (hz : D.size = 8) (hsd : p.side ≤ 1) (hT : T.length ≤ 128) (hb : (halfL D.lasts 4 p.side).take T.length = T) (u : Nat → Value) (Q : Exit → Act → World → Prop)
    (hQ : ∀ (u : Nat → Value), Q .normal { tmps := List.toArray (.slice A N c :: .string (bs s) :: u 2 :: u 3 :: u 4 :: .pointer (some ⟨b, 0, none⟩) :: u 6 :: u 7 :: .pointer (some ⟨gp, 0, none⟩) :: u 9 :: u 10 :: u 11 :: .string (bs T) :: .bool true :: u 14 :: u 15 :: u 16 :: u 17 :: u 18 :: u 19 :: u 20 :: u 21 :: u 22 :: u 23 :: u 24 :: u 25 :: u 26 :: u 27 :: u 28 :: u 29 :: u 30 :: u 31 :: u 32 :: u 33 :: u 34 :: u 35 :: u 36 :: u 37 :: u 38 :: u 39 :: u 40 :: u 41 :: u 42 :: u 43 :: u 44 :: u 45 :: u 46 :: u 47 :: u 48 :: u 49 :: u 50 :: u 51 :: u 52 :: u 53 :: u 54 :: u 55 :: u 56 :: u 57 :: u 58 :: u 59 :: u 60 :: u 61 :: u 62 :: u 63 :: u 64 :: u 65 :: u 66 :: u 67 :: u 68 :: u 69 :: u 70 :: u 71 :: u 72 :: u 73 :: u 74 :: u 75 :: u 76 :: u 77 :: u 78 :: u 79 :: u 80 :: u 81 :: u 82 :: u 83 :: u 84 :: u 85 :: u 86 :: u 87 :: u 88 :: u 89 :: u 90 :: u 91 :: u 92 :: u 93 :: u 94 :: u 95 :: u 96 :: u 97 :: u 98 :: u 99 :: u 100 :: u 101 :: u 102 :: u 103 :: u 104 :: u 105 :: u 106 :: u 107 :: u 108 :: u 109 :: u 110 :: u 111 :: u 112 :: u 113 :: u 114 :: u 115 :: u 116 :: u 117 :: u 118 :: u 119 :: u 120 :: u 121 :: u 122 :: u 123 :: u 124 :: u 125 :: u 126 :: u 127 :: u 128 :: u 129 :: u 130 :: u 131 :: u 132 :: u 133 :: u 134 :: u 135 :: u 136 :: u 137 :: u 138 :: u 139 :: u 140 :: u 141 :: u 142 :: u 143 :: u 144 :: u 145 :: u 146 :: u 147 :: u 148 :: u 149 :: u 150 :: u 151 :: u 152 :: u 153 :: u 154 :: u 155 :: u 156 :: u 157 :: u 158 :: u 159 :: u 160 :: u 161 :: u 162 :: u 163 :: u 164 :: u 165 :: []), defers := [] } W) :
    Code.wp Try.prog (sub [1, 1, 1, 1, 1, 1, 1, 1, 1, 0, 1, 0, 1, 1, 1, 1, 0, 1] bodySp) Q { tmps := List.toArray (.slice A N c :: .string (bs s) :: u 2 :: u 3 :: u 4 :: .pointer (some ⟨b, 0, none⟩) :: u 6 :: u 7 :: .pointer (some ⟨gp, 0, none⟩) :: u 9 :: u 10 :: u 11 :: .string (bs T) :: .bool false :: .int .i64 0 :: u 15 :: u 16 :: u 17 :: u 18 :: u 19 :: u 20 :: u 21 :: u 22 :: u 23 :: u 24 :: u 25 :: u 26 :: u 27 :: u 28 :: u 29 :: u 30 :: u 31 :: u 32 :: u 33 :: u 34 :: u 35 :: u 36 :: u 37 :: u 38 :: u 39 :: u 40 :: u 41 :: u 42 :: u 43 :: u 44 :: u 45 :: u 46 :: u 47 :: u 48 :: u 49 :: u 50 :: u 51 :: u 52 :: u 53 :: u 54 :: u 55 :: u 56 :: u 57 :: u 58 :: u 59 :: u 60 :: u 61 :: u 62 :: u 63 :: u 64 :: u 65 :: u 66 :: u 67 :: u 68 :: u 69 :: u 70 :: u 71 :: u 72 :: u 73 :: u 74 :: u 75 :: u 76 :: u 77 :: u 78 :: u 79 :: u 80 :: u 81 :: u 82 :: u 83 :: u 84 :: u 85 :: u 86 :: u 87 :: u 88 :: u 89 :: u 90 :: u 91 :: u 92 :: u 93 :: u 94 :: u 95 :: u 96 :: u 97 :: u 98 :: u 99 :: u 100 :: u 101 :: u 102 :: u 103 :: u 104 :: u 105 :: u 106 :: u 107 :: u 108 :: u 109 :: u 110 :: u 111 :: u 112 :: u 113 :: u 114 :: u 115 :: u 116 :: u 117 :: u 118 :: u 119 :: u 120 :: u 121 :: u 122 :: u 123 :: u 124 :: u 125 :: u 126 :: u 127 :: u 128 :: u 129 :: u 130 :: u 131 :: u 132 :: u 133 :: u 134 :: u 135 :: u 136 :: u 137 :: u 138 :: u 139 :: u 140 :: u 141 :: u 142 :: u 143 :: u 144 :: u 145 :: u 146 :: u 147 :: u 148 :: u 149 :: u 150 :: u 151 :: u 152 :: u 153 :: u 154 :: u 155 :: u 156 :: u 157 :: u 158 :: u 159 :: u 160 :: u 161 :: u 162 :: u 163 :: u 164 :: u 165 :: []), defers := [] } W := by
  conv => arg 2; whnf
  have HQ := Kp.mk hQ
  have HB := Kp.mk hb
  have HD := Kp.mk hD
  have HOK := Kp.mk hok
  have hst : (bs T).size = T.length := bs_size T
  clear hQ hb hD hok
  refine wp_block ?_
  refine wp_loop_ghost_k (fun n a' w' => ∃ (i : Nat) (fb : Bool) (u : Nat → Value), (n + i = 2 ∧ w' = W ∧ (p.side < i → fb = true)) ∧ a' = { tmps := List.toArray (.slice A N c :: .string (bs s) :: u 2 :: u 3 :: u 4 :: .pointer (some ⟨b, 0, none⟩) :: u 6 :: u 7 :: .pointer (some ⟨gp, 0, none⟩) :: u 9 :: u 10 :: u 11 :: .string (bs T) :: .bool fb :: .int .i64 (i : Int) :: u 15 :: u 16 :: u 17 :: u 18 :: u 19 :: u 20 :: u 21 :: u 22 :: u 23 :: u 24 :: u 25 :: u 26 :: u 27 :: u 28 :: u 29 :: u 30 :: u 31 :: u 32 :: u 33 :: u 34 :: u 35 :: u 36 :: u 37 :: u 38 :: u 39 :: u 40 :: u 41 :: u 42 :: u 43 :: u 44 :: u 45 :: u 46 :: u 47 :: u 48 :: u 49 :: u 50 :: u 51 :: u 52 :: u 53 :: u 54 :: u 55 :: u 56 :: u 57 :: u 58 :: u 59 :: u 60 :: u 61 :: u 62 :: u 63 :: u 64 :: u 65 :: u 66 :: u 67 :: u 68 :: u 69 :: u 70 :: u 71 :: u 72 :: u 73 :: u 74 :: u 75 :: u 76 :: u 77 :: u 78 :: u 79 :: u 80 :: u 81 :: u 82 :: u 83 :: u 84 :: u 85 :: u 86 :: u 87 :: u 88 :: u 89 :: u 90 :: u 91 :: u 92 :: u 93 :: u 94 :: u 95 :: u 96 :: u 97 :: u 98 :: u 99 :: u 100 :: u 101 :: u 102 :: u 103 :: u 104 :: u 105 :: u 106 :: u 107 :: u 108 :: u 109 :: u 110 :: u 111 :: u 112 :: u 113 :: u 114 :: u 115 :: u 116 :: u 117 :: u 118 :: u 119 :: u 120 :: u 121 :: u 122 :: u 123 :: u 124 :: u 125 :: u 126 :: u 127 :: u 128 :: u 129 :: u 130 :: u 131 :: u 132 :: u 133 :: u 134 :: u 135 :: u 136 :: u 137 :: u 138 :: u 139 :: u 140 :: u 141 :: u 142 :: u 143 :: u 144 :: u 145 :: u 146 :: u 147 :: u 148 :: u 149 :: u 150 :: u 151 :: u 152 :: u 153 :: u 154 :: u 155 :: u 156 :: u 157 :: u 158 :: u 159 :: u 160 :: u 161 :: u 162 :: u 163 :: u 164 :: u 165 :: []), defers := [] }) 2
    ⟨0, false, u, ⟨rfl, rfl, fun h => absurd h (Nat.not_lt_zero _)⟩, rfl⟩ ?_
  rintro n a' w' ⟨i, fb, u, ⟨hn, rfl, hfb⟩, rfl⟩ J K hJ hK
  have HJ := Kp.mk hJ
  have HK := Kp.mk hK
  have HN := Kp.mk hn
  have HFB := Kp.mk hfb
  clear hJ hK hn hfb
  by_cases hlt : i < 2
  · have hltz : (i : Int) < 2 := by omega
    have hlen := halfL_len HOK.out.full 4 i
    obtain ⟨h, hh⟩ : ∃ h, h = halfL D.lasts 4 i := ⟨_, rfl⟩
    rw [← hh] at hlen
    have hys : (bs h).size = 128 := by rw [bs_size]; omega
    have HH := Kp.mk hh
    have he : (bs h).extract 0 T.length = bs (h.take T.length) := by rw [ext_bs]; rfl
    obtain ⟨y, hy⟩ : ∃ y, y = bs h := ⟨_, rfl⟩
    rw [← hy] at hys he
    have HY := Kp.mk hy
    have HE := Kp.mk he
    have b1 : (T.length : Int) ≤ (y.size : Int) := by omega
    have HYS := Kp.mk hys
    clear hh hlen hy he hys
    go_upto_block 4 with (fail)
    refine wp_u (fun u => sp_inner A N c b m gp i s T fb S w' D HD.out HOK.out hz (by omega) u _ ?_) rfl
    intro u
    rw [← HH.out, ← HY.out]
    cases fb with
    | true =>
      go_wp2_with fail
      exact HK.out _ _ (Handed.intro (n - 1) (by have := HN.out; omega) (HJ.out _ _ _ ⟨i + 1, true, ex_u ⟨by have := HN.out; omega, rfl, fun _ => rfl⟩ rfl⟩))
    | false =>
      have hbl : ∀ x : List UInt8, (bs x).toList = x := fun x => by simp
      by_cases e : h.take T.length = T
      · have hq : ((y.extract 0 T.length).toList == T) = true := by rw [HE.out, hbl, e]; simp
        clear e hbl
        go_wp2_with fail
        exact HK.out _ _ (Handed.intro (n - 1) (by have := HN.out; omega) (HJ.out _ _ _ ⟨i + 1, true, ex_u ⟨by have := HN.out; omega, rfl, fun _ => rfl⟩ rfl⟩))
      · have hq : ((y.extract 0 T.length).toList == T) = false := by rw [HE.out, hbl]; simpa using e
        have NE : Kp (¬ p.side < i + 1) := ⟨fun hlt' => by
          rcases Nat.lt_or_ge p.side i with h1 | h1
          · exact absurd (HFB.out h1) (by decide)
          · have : p.side = i := by omega
            apply e
            rw [HH.out, ← this]
            exact HB.out⟩
        clear e hbl
        go_wp2_with fail
        exact HK.out _ _ (Handed.intro (n - 1) (by have := HN.out; omega) (HJ.out _ _ _ ⟨i + 1, false, ex_u ⟨by have := HN.out; omega, rfl, fun h => absurd h NE.out⟩ rfl⟩))
  · obtain rfl : i = 2 := by have := HN.out; omega
    obtain rfl : fb = true := HFB.out (by omega)
    go_wp2_with fail
    exact K_u (fun u => HQ.out u) rfl
end Go.Proofs.Ytaohfmmapammcaa.Pl

/- The law PlateSpoilt, whole. Conditions: sizes are bounded, as written out. -/
set_option linter.unusedSimpArgs false
set_option linter.unusedVariables false
namespace Go.Proofs.Ytaohfmmapammcaa.Pl
open Go Go.RowKit Go.Proofs.YtaohfmmapammcaaW.PrintWords Go.Proofs.YtaohfmmapammcaaW.PrintLast Go.Proofs.Ytaohfmmapammcaa.Sha Go.Proofs.Ytaohfmmapammcaa.Dig Go.Proofs.Ytaohfmmapammcaa.Ev Go.Proofs.Ytaohfmmapammcaa.Reg Go.Proofs.Ytaohfmmapammcaa.Ch

/-- What follows a part, laid aside. -/
theorem wp_seq_k {P : Program} {c d : Code} {Q : Exit → Act → World → Prop} {a : Act} {w : World} (h : ∀ K : Act → World → Prop, Kp (∀ a w, d.wp P Q a w → K a w) → c.wp P (Exit.then K Q) a w) : (c.seq d).wp P Q a w :=
  wp_seq (h (fun a w => d.wp P Q a w) ⟨fun _ _ h => h⟩)
theorem told_len {h : B} {n : Int} {t : B} (hl : h.length = 128) (hr : readL h 4 = (n, t)) (hp : 0 < n) : h.take (toldL n t).length = toldL n t ∧ t.length ≤ 88 := by
  have rb := (read_bears h 4 (by rw [hr]; exact hp)).1
  rw [hr] at rb
  dsimp only at rb
  have hh := congrArg List.length rb
  rw [toldL_len, List.length_take, hl] at hh
  rw [toldL_len]
  exact ⟨rb, by omega⟩
theorem told8 (n : Int) (t : B) (h0 : 0 ≤ n) (h1 : n < 4294967296) (ht : t.length ≤ 88) : (numB 4 n ++ numB 4 (t.length : Int)).map (fun b => Value.int .u8 (b.toNat : Int)) = [.int .u8 (n / 16777216), .int .u8 (n / 65536 % 256), .int .u8 (n / 256 % 256), .int .u8 (n % 256), .int .u8 0, .int .u8 0, .int .u8 0, .int .u8 (t.length : Int)] := by
  rw [List.map_append, b4_vals n h0 h1, b4_vals (t.length : Int) (by omega) (by omega)]
  rw [show (t.length : Int) / 16777216 = 0 by omega, show (t.length : Int) / 65536 % 256 = 0 by omega, show (t.length : Int) / 256 % 256 = 0 by omega, show (t.length : Int) % 256 = (t.length : Int) by omega]
  rfl

set_option maxHeartbeats 8000000 in
set_option maxRecDepth 100000 in
theorem sp_mid (w : World) (S : Nat → Prop) (A : Option Addr) (N c b m gp : Nat) (s : B) (hs : s.length ≤ 80) (hS : ∀ k, S k → w.heap.size ≤ k) (hg : w.heap.size ≤ gp) (W : World) (D : DiskS) (p : PlateS) (hD : Dk W (Less S gp) b m D) (hok : OkD D) (hz : D.size = 8) (hc : D.count ≤ 100) (hP : Blk W gp 123 (plL b p)) (hp4 : p.half = 4) (ht : Tells D.lasts p) (hf : Fr No w W) (u : Nat → Value) (Q : Exit → Act → World → Prop)
    (hQ : ∀ (u : Nat → Value) ws, Fr No w ws → Q .ret { tmps := List.toArray (.slice A N c :: .string (bs s) :: u 2 :: u 3 :: .bool true :: .pointer (some ⟨b, 0, none⟩) :: u 6 :: u 7 :: u 8 :: u 9 :: u 10 :: u 11 :: u 12 :: u 13 :: u 14 :: u 15 :: u 16 :: u 17 :: u 18 :: u 19 :: u 20 :: u 21 :: u 22 :: u 23 :: u 24 :: u 25 :: u 26 :: u 27 :: u 28 :: u 29 :: u 30 :: u 31 :: u 32 :: u 33 :: u 34 :: u 35 :: u 36 :: u 37 :: u 38 :: u 39 :: u 40 :: u 41 :: u 42 :: u 43 :: u 44 :: u 45 :: u 46 :: u 47 :: u 48 :: u 49 :: u 50 :: u 51 :: u 52 :: u 53 :: u 54 :: u 55 :: u 56 :: u 57 :: u 58 :: u 59 :: u 60 :: u 61 :: u 62 :: u 63 :: u 64 :: u 65 :: u 66 :: u 67 :: u 68 :: u 69 :: u 70 :: u 71 :: u 72 :: u 73 :: u 74 :: u 75 :: u 76 :: u 77 :: u 78 :: u 79 :: u 80 :: u 81 :: u 82 :: u 83 :: u 84 :: u 85 :: u 86 :: u 87 :: u 88 :: u 89 :: u 90 :: u 91 :: u 92 :: u 93 :: u 94 :: u 95 :: u 96 :: u 97 :: u 98 :: u 99 :: u 100 :: u 101 :: u 102 :: u 103 :: u 104 :: u 105 :: u 106 :: u 107 :: u 108 :: u 109 :: u 110 :: u 111 :: u 112 :: u 113 :: u 114 :: u 115 :: u 116 :: u 117 :: u 118 :: u 119 :: u 120 :: u 121 :: u 122 :: u 123 :: u 124 :: u 125 :: u 126 :: u 127 :: u 128 :: u 129 :: u 130 :: u 131 :: u 132 :: u 133 :: u 134 :: u 135 :: u 136 :: u 137 :: u 138 :: u 139 :: u 140 :: u 141 :: u 142 :: u 143 :: u 144 :: u 145 :: u 146 :: u 147 :: u 148 :: u 149 :: u 150 :: u 151 :: u 152 :: u 153 :: u 154 :: u 155 :: u 156 :: u 157 :: u 158 :: u 159 :: u 160 :: u 161 :: u 162 :: u 163 :: u 164 :: u 165 :: []), defers := [] } ws) :
    Code.wp Try.prog (sub [1,1,1,1,1,1,1,1,1] bodySp) Q { tmps := List.toArray (.slice A N c :: .string (bs s) :: u 2 :: u 3 :: u 4 :: .pointer (some ⟨b, 0, none⟩) :: u 6 :: u 7 :: .pointer (some ⟨gp, 0, none⟩) :: u 9 :: u 10 :: u 11 :: u 12 :: u 13 :: u 14 :: u 15 :: u 16 :: u 17 :: u 18 :: u 19 :: u 20 :: u 21 :: u 22 :: u 23 :: u 24 :: u 25 :: u 26 :: u 27 :: u 28 :: u 29 :: u 30 :: u 31 :: u 32 :: u 33 :: u 34 :: u 35 :: u 36 :: u 37 :: u 38 :: u 39 :: u 40 :: u 41 :: u 42 :: u 43 :: u 44 :: u 45 :: u 46 :: u 47 :: u 48 :: u 49 :: u 50 :: u 51 :: u 52 :: u 53 :: u 54 :: u 55 :: u 56 :: u 57 :: u 58 :: u 59 :: u 60 :: u 61 :: u 62 :: u 63 :: u 64 :: u 65 :: u 66 :: u 67 :: u 68 :: u 69 :: u 70 :: u 71 :: u 72 :: u 73 :: u 74 :: u 75 :: u 76 :: u 77 :: u 78 :: u 79 :: u 80 :: u 81 :: u 82 :: u 83 :: u 84 :: u 85 :: u 86 :: u 87 :: u 88 :: u 89 :: u 90 :: u 91 :: u 92 :: u 93 :: u 94 :: u 95 :: u 96 :: u 97 :: u 98 :: u 99 :: u 100 :: u 101 :: u 102 :: u 103 :: u 104 :: u 105 :: u 106 :: u 107 :: u 108 :: u 109 :: u 110 :: u 111 :: u 112 :: u 113 :: u 114 :: u 115 :: u 116 :: u 117 :: u 118 :: u 119 :: u 120 :: u 121 :: u 122 :: u 123 :: u 124 :: u 125 :: u 126 :: u 127 :: u 128 :: u 129 :: u 130 :: u 131 :: u 132 :: u 133 :: u 134 :: u 135 :: u 136 :: u 137 :: u 138 :: u 139 :: u 140 :: u 141 :: u 142 :: u 143 :: u 144 :: u 145 :: u 146 :: u 147 :: u 148 :: u 149 :: u 150 :: u 151 :: u 152 :: u 153 :: u 154 :: u 155 :: u 156 :: u 157 :: u 158 :: u 159 :: u 160 :: u 161 :: u 162 :: u 163 :: u 164 :: u 165 :: []), defers := [] } W := by
  conv => arg 2; whnf
  refine wp_seq_k (fun K HK => ?_)
  have TAIL : Kp (∀ (u : Nat → Value) W', Fr No W W' → Code.wp Try.prog (sub [1,1,1,1,1,1,1,1,1,1] bodySp) Q { tmps := List.toArray (.slice A N c :: .string (bs s) :: u 2 :: u 3 :: u 4 :: .pointer (some ⟨b, 0, none⟩) :: u 6 :: u 7 :: .pointer (some ⟨gp, 0, none⟩) :: u 9 :: u 10 :: u 11 :: u 12 :: u 13 :: u 14 :: u 15 :: u 16 :: u 17 :: u 18 :: u 19 :: u 20 :: u 21 :: u 22 :: u 23 :: u 24 :: u 25 :: u 26 :: u 27 :: u 28 :: u 29 :: u 30 :: u 31 :: u 32 :: u 33 :: u 34 :: u 35 :: u 36 :: u 37 :: u 38 :: u 39 :: u 40 :: u 41 :: u 42 :: u 43 :: u 44 :: u 45 :: u 46 :: u 47 :: u 48 :: u 49 :: u 50 :: u 51 :: u 52 :: u 53 :: u 54 :: u 55 :: u 56 :: u 57 :: u 58 :: u 59 :: u 60 :: u 61 :: u 62 :: u 63 :: u 64 :: u 65 :: u 66 :: u 67 :: u 68 :: u 69 :: u 70 :: u 71 :: u 72 :: u 73 :: u 74 :: u 75 :: u 76 :: u 77 :: u 78 :: u 79 :: u 80 :: u 81 :: u 82 :: u 83 :: u 84 :: u 85 :: u 86 :: u 87 :: u 88 :: u 89 :: u 90 :: u 91 :: u 92 :: u 93 :: u 94 :: u 95 :: u 96 :: u 97 :: u 98 :: u 99 :: u 100 :: u 101 :: u 102 :: u 103 :: u 104 :: u 105 :: u 106 :: u 107 :: u 108 :: u 109 :: u 110 :: u 111 :: u 112 :: u 113 :: u 114 :: u 115 :: u 116 :: u 117 :: u 118 :: u 119 :: u 120 :: u 121 :: u 122 :: u 123 :: u 124 :: u 125 :: u 126 :: u 127 :: u 128 :: u 129 :: u 130 :: u 131 :: u 132 :: u 133 :: u 134 :: u 135 :: u 136 :: u 137 :: u 138 :: u 139 :: u 140 :: u 141 :: u 142 :: u 143 :: u 144 :: u 145 :: u 146 :: u 147 :: u 148 :: u 149 :: u 150 :: u 151 :: u 152 :: u 153 :: u 154 :: u 155 :: u 156 :: u 157 :: u 158 :: u 159 :: u 160 :: u 161 :: u 162 :: u 163 :: u 164 :: u 165 :: []), defers := [] } W') := ⟨fun u W' f => sp_tail w S A N c b m gp s hs hS hg W' D p (hD.no f) hok hz hc (hP.no f) hp4 ht (hf.no f) u Q hQ⟩
  have HD := Kp.mk hD
  have HOK := Kp.mk hok
  have HP := Kp.mk hP
  have HT := Kp.mk ht
  have CN := Kp.mk (pnumber_any hP)
  have hpos := ht.pos
  by_cases hn : 0 < p.number
  · have hcur := ht.cur hn
    rw [hp4] at hcur
    have hr1 := (readL_range (halfL D.lasts 4 p.side) 4).2
    rw [hcur] at hr1
    have hn1 : p.number < 4294967296 := hr1
    obtain ⟨hb, ht88⟩ := told_len (halfL_len hok.full 4 p.side) hcur hn
    have hsd := ht.side
    have HB := Kp.mk hb
    have CT := Kp.mk (text_any hP)
    obtain ⟨n, hnn⟩ : ∃ n, n = p.number := ⟨_, rfl⟩
    obtain ⟨t, htt⟩ : ∃ t, t = p.text := ⟨_, rfl⟩
    rw [← hnn] at hn hpos CN hn1 HB
    rw [← htt] at ht88 CT HB
    have h8 := Kp.mk (told8 n t hpos hn1 ht88)
    have hts : (bs t).size = t.length := bs_size t
    have e1 : bs (numB 4 n ++ numB 4 (t.length : Int)) ++ bs t = bs (bodyL n t) := by rw [bs_append]; rfl
    have e2 : bs (bodyL n t) ++ bs (sumL (bodyL n t)) = bs (toldL n t) := by rw [bs_append]; rfl
    have E1 := Kp.mk e1
    have E2 := Kp.mk e2
    have hx8 : (numB 4 n ++ numB 4 (t.length : Int)).length = 8 := by simp [numB_len]
    have hxs : (bs (numB 4 n ++ numB 4 (t.length : Int))).size ≤ 8 := by rw [bs_size]; omega
    have hbs : (bs (bodyL n t)).size ≤ 200 := by rw [bs_size, bodyL_len]; omega
    have hss : (bs (sumL (bodyL n t))).size ≤ 32 := by rw [bs_size, sumL_len]; omega
    have CS := Kp.mk (fun W g hb' => sumOne_any (bodyL n t) (by rw [bodyL_len]; omega) W g hb')
    have HT8 : Kp ((toldL n t).length ≤ 128) := ⟨by rw [toldL_len]; omega⟩
    have HX8 := Kp.mk hx8
    have hx8l : (numB 4 n ++ numB 4 (t.length : Int)).length ≤ 8 := by omega
    have ht88z : (t.length : Int) ≤ 88 := by omega
    clear e1 e2 hb hcur hr1 hx8 hnn htt hD hok hP ht
    generalize numB 4 n ++ numB 4 (t.length : Int) = x8 at h8 E1 hxs HX8 hx8l
    generalize bodyL n t = bd at E1 E2 hbs hss CS
    generalize sumL bd = sm at E2 hss CS
    generalize toldL n t = T at E2 HB HT8
    go_upto_block 2 with (first
      | (go_at_call 23; (with_reducible refine CN.out.mono ?_); rintro e w1 ⟨rfl, hww⟩; subst hww)
      | (go_at_call 24; (with_reducible refine CT.out.mono ?_); rintro e w1 ⟨rfl, hww⟩; subst hww)
      | ((with_reducible refine gate_dst (N := 88) rfl ?_); refine ev_lit rfl 5 [.int .u8 (n / 16777216), .int .u8 (n / 65536 % 256), .int .u8 (n / 256 % 256), .int .u8 (n % 256), .int .u8 0, .int .u8 0, .int .u8 0, .int .u8 (t.length : Int)] 8 (by first | (go_simp; done) | (go_simp; rfl)) ?_; intro g8 w2 hg8 f2 b2; rw [← h8.out] at b2)
      | ((with_reducible refine gate_dst (N := 89) rfl ?_); refine ev_str rfl 43 9 5 (.tmp 88) rfl Try.underlying43 Try.underlying5 Try.underlying9 0 _ 8 5 x8 rfl (Blk.owns b2 (by simp [HX8.out]) (by simp [maxLen]) (Nat.zero_le _)) ?_)
      | ((with_reducible refine gate_dst (N := 94) rfl ?_); rw [E1.out]; refine ev_lit rfl 9 [.string (bs bd)] 1 (by first | (go_simp; done) | (go_simp; rfl)) ?_; intro g9 w3 hg9 f3 b3)
      | (go_at_call 12; refine (CS.out _ _ b3).mono ?_; rintro e w4 ⟨rfl, f4⟩))
    rw [E2.out]
    have F4 := (f2.no f3).no f4
    refine wp_u (fun u => sp_outer A N c b m gp s T (Less S gp) w4 D p (HD.out.no F4) HOK.out hz hsd HT8.out HB.out u _ ?_) rfl
    intro u
    go_wp2_with fail
    refine HK.out _ _ ?_
    exact wp_u (fun u => TAIL.out u _ F4) rfl
  · have hn0 : p.number = 0 := by omega
    have CT := Kp.mk (text_any hP)
    rw [ht.nil hn0] at CT
    rw [hn0] at CN
    clear hn hD hok hP ht
    go_wp2_with (first
      | (go_at_call 23; (with_reducible refine CN.out.mono ?_); rintro e w1 ⟨rfl, hww⟩; subst hww)
      | (go_at_call 24; refine CT.out.mono ?_; rintro e w1 ⟨rfl, hww⟩; subst hww))
    refine HK.out _ _ ?_
    exact wp_u (fun u => TAIL.out u _ (Fr.refl _ _)) rfl
end Go.Proofs.Ytaohfmmapammcaa.Pl

/- The law PlateSpoilt's own function. Conditions: sizes are bounded, as written out. -/
set_option linter.unusedSimpArgs false
set_option linter.unusedVariables false
namespace Go.Proofs.Ytaohfmmapammcaa.Pl
open Go Go.RowKit Go.Proofs.YtaohfmmapammcaaW.PrintWords Go.Proofs.YtaohfmmapammcaaW.PrintLast Go.Proofs.Ytaohfmmapammcaa.Sha Go.Proofs.Ytaohfmmapammcaa.Dig Go.Proofs.Ytaohfmmapammcaa.Ev Go.Proofs.Ytaohfmmapammcaa.Reg Go.Proofs.Ytaohfmmapammcaa.Ch

set_option maxHeartbeats 8000000 in
set_option maxRecDepth 100000 in
theorem sp_six (w : World) (S : Nat → Prop) (A : Option Addr) (N c b m : Nat) (s : B) (hs : s.length ≤ 80) (hS : ∀ k, S k → w.heap.size ≤ k) (hN8 : N ≤ 8) (W : World) (D : DiskS) (hI : SpI w W S b m N D) (u : Nat → Value) (Q : Exit → Act → World → Prop)
    (hQ : ∀ (u : Nat → Value) ws, Fr No w ws → Q .ret { tmps := List.toArray (.slice A N c :: .string (bs s) :: u 2 :: u 3 :: .bool true :: .pointer (some ⟨b, 0, none⟩) :: u 6 :: u 7 :: u 8 :: u 9 :: u 10 :: u 11 :: u 12 :: u 13 :: u 14 :: u 15 :: u 16 :: u 17 :: u 18 :: u 19 :: u 20 :: u 21 :: u 22 :: u 23 :: u 24 :: u 25 :: u 26 :: u 27 :: u 28 :: u 29 :: u 30 :: u 31 :: u 32 :: u 33 :: u 34 :: u 35 :: u 36 :: u 37 :: u 38 :: u 39 :: u 40 :: u 41 :: u 42 :: u 43 :: u 44 :: u 45 :: u 46 :: u 47 :: u 48 :: u 49 :: u 50 :: u 51 :: u 52 :: u 53 :: u 54 :: u 55 :: u 56 :: u 57 :: u 58 :: u 59 :: u 60 :: u 61 :: u 62 :: u 63 :: u 64 :: u 65 :: u 66 :: u 67 :: u 68 :: u 69 :: u 70 :: u 71 :: u 72 :: u 73 :: u 74 :: u 75 :: u 76 :: u 77 :: u 78 :: u 79 :: u 80 :: u 81 :: u 82 :: u 83 :: u 84 :: u 85 :: u 86 :: u 87 :: u 88 :: u 89 :: u 90 :: u 91 :: u 92 :: u 93 :: u 94 :: u 95 :: u 96 :: u 97 :: u 98 :: u 99 :: u 100 :: u 101 :: u 102 :: u 103 :: u 104 :: u 105 :: u 106 :: u 107 :: u 108 :: u 109 :: u 110 :: u 111 :: u 112 :: u 113 :: u 114 :: u 115 :: u 116 :: u 117 :: u 118 :: u 119 :: u 120 :: u 121 :: u 122 :: u 123 :: u 124 :: u 125 :: u 126 :: u 127 :: u 128 :: u 129 :: u 130 :: u 131 :: u 132 :: u 133 :: u 134 :: u 135 :: u 136 :: u 137 :: u 138 :: u 139 :: u 140 :: u 141 :: u 142 :: u 143 :: u 144 :: u 145 :: u 146 :: u 147 :: u 148 :: u 149 :: u 150 :: u 151 :: u 152 :: u 153 :: u 154 :: u 155 :: u 156 :: u 157 :: u 158 :: u 159 :: u 160 :: u 161 :: u 162 :: u 163 :: u 164 :: u 165 :: []), defers := [] } ws) :
    Code.wp Try.prog (sub [1,1,1,1,1,1] bodySp) Q { tmps := List.toArray (.slice A N c :: .string (bs s) :: u 2 :: u 3 :: u 4 :: .pointer (some ⟨b, 0, none⟩) :: u 6 :: u 7 :: u 8 :: u 9 :: u 10 :: u 11 :: u 12 :: u 13 :: u 14 :: u 15 :: u 16 :: u 17 :: u 18 :: u 19 :: u 20 :: u 21 :: u 22 :: u 23 :: u 24 :: u 25 :: u 26 :: u 27 :: u 28 :: u 29 :: u 30 :: u 31 :: u 32 :: u 33 :: u 34 :: u 35 :: u 36 :: u 37 :: u 38 :: u 39 :: u 40 :: u 41 :: u 42 :: u 43 :: u 44 :: u 45 :: u 46 :: u 47 :: u 48 :: u 49 :: u 50 :: u 51 :: u 52 :: u 53 :: u 54 :: u 55 :: u 56 :: u 57 :: u 58 :: u 59 :: u 60 :: u 61 :: u 62 :: u 63 :: u 64 :: u 65 :: u 66 :: u 67 :: u 68 :: u 69 :: u 70 :: u 71 :: u 72 :: u 73 :: u 74 :: u 75 :: u 76 :: u 77 :: u 78 :: u 79 :: u 80 :: u 81 :: u 82 :: u 83 :: u 84 :: u 85 :: u 86 :: u 87 :: u 88 :: u 89 :: u 90 :: u 91 :: u 92 :: u 93 :: u 94 :: u 95 :: u 96 :: u 97 :: u 98 :: u 99 :: u 100 :: u 101 :: u 102 :: u 103 :: u 104 :: u 105 :: u 106 :: u 107 :: u 108 :: u 109 :: u 110 :: u 111 :: u 112 :: u 113 :: u 114 :: u 115 :: u 116 :: u 117 :: u 118 :: u 119 :: u 120 :: u 121 :: u 122 :: u 123 :: u 124 :: u 125 :: u 126 :: u 127 :: u 128 :: u 129 :: u 130 :: u 131 :: u 132 :: u 133 :: u 134 :: u 135 :: u 136 :: u 137 :: u 138 :: u 139 :: u 140 :: u 141 :: u 142 :: u 143 :: u 144 :: u 145 :: u 146 :: u 147 :: u 148 :: u 149 :: u 150 :: u 151 :: u 152 :: u 153 :: u 154 :: u 155 :: u 156 :: u 157 :: u 158 :: u 159 :: u 160 :: u 161 :: u 162 :: u 163 :: u 164 :: u 165 :: []), defers := [] } W := by
  conv => arg 2; whnf
  obtain ⟨hfe, hok, hz, hcn⟩ := hI.wk.flush
  have CF := flush_any hI.disk hI.wk.pos (by have := hI.wk.cnt; omega) (by have := hI.wk.wl; omega)
  rw [hfe] at CF
  have CF := Kp.mk CF
  have HI := Kp.mk hI
  have HS := Kp.mk hS
  have HQ := Kp.mk hQ
  have hcn2 : (lastD (countD D)).count ≤ 100 := by omega
  clear hfe hI hcn hS hQ
  obtain ⟨D2, hD2⟩ : ∃ D2, D2 = lastD (countD D) := ⟨_, rfl⟩
  rw [← hD2] at hok hz hcn2 CF
  have HOK := Kp.mk hok
  clear hD2 hok
  refine wp_seq_k (fun K HK => ?_)
  go_wp2_with (go_at_call 21; refine CF.out.mono ?_; rintro e w4 ⟨rfl, d4, f4⟩; have D4 := Kp.mk d4; clear d4)
  refine HK.out _ _ ?_
  clear HK CF K
  refine wp_seq_k (fun K HK => ?_)
  go_wp2_with fail
  refine (open_any D4.out HOK.out 4 hz (by decide) (by decide)).mono ?_
  rintro e w5 ⟨gp, rfl, P5, hgp, d5, f5⟩
  have ht := open_tells D2.lasts 4
  have hh := open_half D2.lasts 4
  generalize openP D2.lasts 4 = p at P5 ht hh
  have z4 := HI.out.fr.size
  have z5 := f4.size
  have F5 : Fr No w w5 := (HI.out.fr.trans f4 (fun k h => .inr (HS.out k h))).no f5
  have HP5 := Kp.mk P5
  have HD5 := Kp.mk d5
  have HT := Kp.mk ht
  have HH := Kp.mk hh
  have HF5 := Kp.mk F5
  have hgw : w.heap.size ≤ gp := by omega
  clear P5 d5 ht hh F5 f4 f5 z4 z5
  go_wp2_with fail
  refine HK.out _ _ ?_
  clear HK K
  refine wp_seq_k (fun K HK => ?_)
  go_wp2_with fail
  refine HK.out _ _ ?_
  exact wp_u (fun u => sp_mid w S A N c b m gp s hs HS.out hgw w5 D2 p HD5.out HOK.out hz hcn2 HP5.out HH.out HT.out HF5.out u Q HQ.out) rfl

set_option maxHeartbeats 8000000 in
set_option maxRecDepth 100000 in
theorem spoilt_any (l : List B) (s : B) (A : Option Addr) (c : Nat) (w : World) (hX : Txts w A l) (hs : ∀ (i : Nat) (x : B), l[i]? = some x → x.length ≤ 1099511627776000) (hl : l.length ≤ 1099511627776000) (hsl : s.length ≤ 1099511627776000) :
    Calls Try.prog 4 #[.slice A l.length c, .string (bs s)] w fun e w' => e = .returned (.bool true) ∧ Fr No w w' := by
  have CA : Kp (∀ W, Calls Try.prog 18 #[] W fun e w' => e = .returned (.bool true) ∧ Fr No W w') := ⟨awake_any⟩
  have hsz : (bs s).size = s.length := bs_size s
  have HX := Kp.mk hX
  have HS := Kp.mk hs
  obtain ⟨N, hN⟩ : ∃ N, N = l.length := ⟨_, rfl⟩
  rw [← hN] at hl ⊢
  have HN := Kp.mk hN
  clear hX hs hN
  by_cases c1 : N ≤ 8
  · have c1z : (N : Int) ≤ 8 := by omega
    by_cases c2 : s.length ≤ 80
    · have c2z : (s.length : Int) ≤ 80 := by omega
      have CN := Kp.mk (fun W => new_any 8 (by decide) (by decide) W)
      go_enter Try.func4, Try.ntmps4
      go_upto_block 0 with (first
        | (go_at_call 18; refine (CA.out _).mono ?_; rintro e w1 ⟨rfl, f1⟩)
        | (go_at_call 19; refine (CN.out _).mono ?_; rintro e w3 ⟨b, m, rfl, d3, hb, hm, f3⟩; have D3 : Kp (Dk w3 (fun k => w1.heap.size ≤ k) b m (newD 8)) := ⟨⟨⟨.slice none 0 0, d3, fun k hk => by simp [Value.ownBlock] at hk⟩, hb, hm, fun k hk => Nat.le_trans f3.size hk⟩⟩; clear d3))
      have z1 := f1.size
      have z3 := f3.size
      have F3 := f1.no f3
      refine wp_u (fun u => sp_loop1 w (fun k => w1.heap.size ≤ k) A N c b m l s (fun k h => Nat.le_trans z1 h) HN.out c1 HX.out HS.out w3 ⟨D3.out, Wk.new, F3⟩ u _ ?_) rfl
      clear D3 hb hm f1 f3 F3
      intro u D ws hI
      simp only [Exit.then]
      refine (‹∀ (a : Act) (w : World), Code.wp Try.prog (sub [1,1,1,1,1,1] bodySp) _ a w → _›) _ _ ?_
      refine wp_u (fun u => sp_six w (fun k => w1.heap.size ≤ k) A N c b m s c2 (fun k h => Nat.le_trans z1 h) c1 ws D hI u _ ?_) rfl
      intro u ws' f
      go_ret
      exact ⟨rfl, f⟩
    · have c2z : (80 : Int) < (s.length : Int) := by omega
      clear c2
      go_enter Try.func4, Try.ntmps4
      go_wp2_with (go_at_call 18; refine (CA.out _).mono ?_; rintro e w1 ⟨rfl, f1⟩)
      go_ret
      exact ⟨rfl, f1⟩
  · have c1z : (8 : Int) < (N : Int) := by omega
    clear c1
    go_enter Try.func4, Try.ntmps4
    go_wp2_with (go_at_call 18; refine (CA.out _).mono ?_; rintro e w1 ⟨rfl, f1⟩)
    go_ret
    exact ⟨rfl, f1⟩
end Go.Proofs.Ytaohfmmapammcaa.Pl

/- The row PlateSpoilt. No conditions beside the statement's own. -/
set_option linter.unusedSimpArgs false
set_option linter.unusedVariables false
namespace Go.Proofs.Ytaohfmmapammcaa
open Go.ChangeShapes Go.WideShapes Go.ChangeAt Go.RowKit

set_option maxRecDepth 100000 in
theorem plateSpoilt_lifted (os : Os) (started : os.Started) (H : Type) (enc : TypeId × Value → H) :
    ReturnsInHanded {} Try.checked os 4 .any (Rows.plateSpoiltSpec.pre6 enc Try.prog Try.f4 Rows.plateSpoiltRow.domain false) (Rows.plateSpoiltSpec.post enc Try.prog Try.f4 false true false false) := by
  refine returnsInHanded_of_change_sized (C := Try.checked) Try.own started (by kernel_rfl) Try.func4
    (ChangeSpec.witness6 (enc := enc) (C := Try.checked) false ⟨#[], #[.slice none 0 0, .string ⟨#[]⟩], []⟩ 8 (by kernel_rfl) (by kernel_rfl) (by kernel_rfl) (by kernel_rfl)) ?_
  intro W base args ds gs before hval0 hW _ hsz0 _
  have hszz : (DataW.weightsEach Try.prog (Try.f4.params.toList ++ Rows.plateSpoiltSpec.plain.varTypes Try.prog) (ds ++ gs)).all (· ≤ reachBytes) = true := hsz0
  clear hsz0
  have hval : ∀ (j : Nat) t v, Try.f4.params[j]? = some t → args[j]? = some v → Value.okWide Try.prog W .any base t v := hval0
  have hW' := hW
  obtain ⟨p, q, hA0, hV, rfl, _, _⟩ := hW
  have hA : DataW.TrodAll enc Try.prog W 0 (fun _ => true) true Try.f4.params.toList args.toList ds p := hA0
  rw [Try.params4] at hA hval hszz
  obtain ⟨v0, v1, d0, d1, p0, p1, rfl, rfl, rfl, h0, h1⟩ := trodAll_two hA
  obtain ⟨rfl, rfl⟩ := trodVars_none hV
  obtain ⟨y, rfl, rfl, rfl, by1⟩ := Go.ChangeMaps.open_string Try.underlying9 (hval 1 9 v1 rfl rfl) h1
  obtain ⟨a1, len, cap, rfl⟩ := okWide_slice Try.underlying22 (hval 0 22 v0 rfl rfl)
  have zy := sized_string hszz (j := 1) (t := 9) rfl rfl
  have hrb : reachBytes < 2 ^ 47 := reachBytes_lt
  simp only [List.append_nil] at hW' hszz
  have hlt : ∀ x ∈ p0, x.block < W.heap.size := fun x hx => by simpa using hW'.lt x (by simp [hx])
  have hargs : ∀ (W' : World), Below W.heap.size W W' → DataW.Trod enc Try.prog W' 0 (fun b => decide (b < W.heap.size)) true 22 (.slice a1 len cap) d0 p0 :=
    fun W' hn => Below.trod Try.laidOut (by kernel_rfl) (of_decide_eq_true (by kernel_rfl)) h0 hn hlt
  obtain ⟨l, hX, hll, hlen, hs⟩ := txts_of h0 hszz (j := 0) rfl rfl
  subst hll
  refine (Pl.spoilt_any l y.data.toList a1 cap W hX hs hlen (by omega)).mono fun e W' ⟨he, hf⟩ => ?_
  subst he
  have hnx := hf.below
  refine ⟨_, rfl, _, _, _, [], p0 ++ [], [], hW', ?_, trodAll_mk2 (hargs _ hnx) (Go.ChangeMaps.shut_string Try.underlying9 by1), rfl, hnx.frame _, fun h => by cases h⟩
  exact trodAll_mk1 (shut_bool Try.underlying4 true)

theorem plateSpoilt_holds : Rows.PlateSpoiltSaid :=
  OpenClaim.holds_of_wide 4 Try.f4 rfl rfl rfl rfl rfl rfl rfl ⟨rfl, rfl, rfl, rfl, rfl⟩ rfl rfl rfl rfl rfl (by kernel_rfl) Try.func4 (by kernel_rfl)
    (of_decide_eq_true (by kernel_rfl)) (by unfold Func.isWrapper; first | (rw [if_pos (by decide +kernel)]; kernel_rfl) | (rw [if_neg (by decide +kernel)]; exact ⟨rfl, rfl⟩))
    (fun os started H enc _ => plateSpoilt_lifted os started H enc)
end Go.Proofs.Ytaohfmmapammcaa
