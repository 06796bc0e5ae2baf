/- Texts joined by merge.py: PlWrites, PlWritesAny, PlRowP. -/
import Derived.Test.YtaohfmmapammcaaPlD
import Derived.Test.YtaohfmmapammcaaRows
import Derived.ProofKit
import Derived.SliceStrings
import Derived.SizedLaws
/- The law PlateWrites. Conditions: sizes are bounded, as written out. -/
set_option linter.unusedSimpArgs false
set_option linter.unusedVariables false
namespace Go.Proofs.Ytaohfmmapammcaa.Pl
open Go Go.RowKit Go.Proofs.YtaohfmmapammcaaW.PrintWords Go.Proofs.YtaohfmmapammcaaW.PrintLast Go.Proofs.Ytaohfmmapammcaa.Sha Go.Proofs.Ytaohfmmapammcaa.Dig Go.Proofs.Ytaohfmmapammcaa.Ev Go.Proofs.Ytaohfmmapammcaa.Reg Go.Proofs.Ytaohfmmapammcaa.Ch

noncomputable def bodyWr : Code := Try.f5.body.getD .skip
/-- What the disk may write to: what was made by the law, but the plate. -/
def S0 (w : World) (gp : Nat) : Nat → Prop := Less (fun k => w.heap.size ≤ k) gp
theorem Alone.toTellsAlone {f : Int → Option B} {p : PlateS} (h : Alone f p) : Alone f p := h
/-- What a law holds between two writings. -/
structure WrI (w w' : World) (b m gp half i : Nat) (D : DiskS) (p : PlateS) : Prop where
  disk : Dk w' (S0 w gp) b m D
  ok : OkD D
  size : D.size = 2 * half
  cnt : D.count ≤ 5000 * (i : Int)
  pl : Blk w' gp 123 (plL b p)
  half : p.half = half
  alone : Alone D.lasts p
  num : p.number ≤ (i : Int)
  new : w.heap.size ≤ gp
  fr : Fr No w w'
theorem WrI.no {w w' w1 : World} {b m gp half i : Nat} {D : DiskS} {p : PlateS} (h : WrI w w' b m gp half i D p) (f : Fr No w' w1) : WrI w w1 b m gp half i D p :=
  ⟨h.disk.no f, h.ok, h.size, h.cnt, h.pl.no f, h.half, h.alone, h.num, h.new, h.fr.no f⟩
theorem WrI.opened {w w' w1 : World} {b m gp gq half i : Nat} {D : DiskS} {p : PlateS} (h : WrI w w' b m gp half i D p) (f : Fr No w' w1) (d : Dk w1 (Less (S0 w gp) gq) b m D) : WrI w w1 b m gp half i D p :=
  ⟨d.wide (fun k hk => hk.1), h.ok, h.size, h.cnt, h.pl.no f, h.half, h.alone, h.num, h.new, h.fr.no f⟩
theorem WrI.more {w w' : World} {b m gp half i : Nat} {D : DiskS} {p : PlateS} (h : WrI w w' b m gp half i D p) : WrI w w' b m gp half (i + 1) D p :=
  ⟨h.disk, h.ok, h.size, by have := h.cnt; omega, h.pl, h.half, h.alone, by have := h.num; omega, h.new, h.fr⟩
theorem WrI.wrote {w w' w1 : World} {b m gp half i : Nat} {D : DiskS} {p : PlateS} {s : B} (h : WrI w w' b m gp half i D p) (hh : half ≤ 4096) (hs : s.length + 40 ≤ half * 32) (hi : i ≤ 1000) (d : Dk w1 (S0 w gp) b m (wellD D p s)) (pl : Blk w1 gp 123 (plL b (wroteP p s))) (f : Fr (More (S0 w gp) gp) w' w1) :
    WrI w w1 b m gp half (i + 1) (wellD D p s) (wroteP p s) := by
  have hn := h.num
  have hc := h.cnt
  have hp := h.alone.pos
  have hw := wellD_count (D := D) p s (by rw [h.half]; exact hs)
  have hhf := h.half
  refine ⟨d, wellD_ok h.ok p s, h.size, by omega, pl, h.half, wrote_alone h.alone.toTells s (by rw [h.half]; exact hs) (by omega) (by omega), by show p.number + 1 ≤ _; omega, h.new, h.fr.trans f (fun k hk => ?_)⟩
  rcases hk with hk | hk
  · exact .inr hk.1
  · rw [hk]; exact .inr h.new

set_option maxHeartbeats 8000000 in
set_option maxRecDepth 100000 in
theorem writes_loop (w : World) (size : Int) (A : Option Addr) (N c b m gp half : Nat) (l : List B) (hN : N = l.length) (hN3 : N ≤ 30) (hX : Txts w A l) (hs : ∀ (i : Nat) (x : B), l[i]? = some x → x.length ≤ 5000) (h4 : 4 ≤ half) (hh : half ≤ 200) (W : World) (D0 : DiskS) (h0 : WrI w W b m gp half 0 D0 ⟨half, 0, 0, []⟩) (u : Nat → Value) (Q : Exit → Act → World → Prop)
    (hQ : ∀ (u : Nat → Value) ws, Fr No w ws → Q .normal { tmps := List.toArray (.int .i64 size :: .slice A N c :: u 2 :: u 3 :: u 4 :: .pointer (some ⟨b, 0, none⟩) :: u 6 :: .pointer (some ⟨gp, 0, none⟩) :: u 8 :: u 9 :: u 10 :: u 11 :: u 12 :: u 13 :: u 14 :: u 15 :: u 16 :: u 17 :: u 18 :: u 19 :: u 20 :: u 21 :: u 22 :: u 23 :: u 24 :: u 25 :: u 26 :: u 27 :: u 28 :: u 29 :: u 30 :: u 31 :: u 32 :: u 33 :: u 34 :: u 35 :: u 36 :: u 37 :: u 38 :: u 39 :: u 40 :: u 41 :: u 42 :: u 43 :: u 44 :: u 45 :: u 46 :: u 47 :: u 48 :: u 49 :: u 50 :: u 51 :: u 52 :: u 53 :: u 54 :: u 55 :: u 56 :: u 57 :: u 58 :: u 59 :: u 60 :: u 61 :: u 62 :: u 63 :: u 64 :: u 65 :: u 66 :: u 67 :: u 68 :: u 69 :: u 70 :: u 71 :: u 72 :: u 73 :: u 74 :: u 75 :: u 76 :: u 77 :: u 78 :: u 79 :: u 80 :: u 81 :: u 82 :: u 83 :: u 84 :: u 85 :: u 86 :: u 87 :: u 88 :: u 89 :: u 90 :: u 91 :: u 92 :: u 93 :: u 94 :: u 95 :: u 96 :: u 97 :: u 98 :: u 99 :: u 100 :: u 101 :: u 102 :: u 103 :: u 104 :: u 105 :: u 106 :: u 107 :: u 108 :: u 109 :: u 110 :: u 111 :: u 112 :: u 113 :: u 114 :: u 115 :: u 116 :: u 117 :: u 118 :: u 119 :: u 120 :: u 121 :: u 122 :: u 123 :: u 124 :: u 125 :: u 126 :: u 127 :: u 128 :: u 129 :: u 130 :: u 131 :: u 132 :: u 133 :: u 134 :: u 135 :: u 136 :: u 137 :: u 138 :: u 139 :: u 140 :: u 141 :: u 142 :: u 143 :: u 144 :: u 145 :: u 146 :: u 147 :: u 148 :: u 149 :: u 150 :: u 151 :: []), defers := [] } ws) :
    Code.wp Try.prog (sub [1,1,1,1,1,1,1,1,1,0,1] bodyWr) Q { tmps := List.toArray (.int .i64 size :: .slice A N c :: u 2 :: u 3 :: u 4 :: .pointer (some ⟨b, 0, none⟩) :: u 6 :: .pointer (some ⟨gp, 0, none⟩) :: u 8 :: .string ⟨#[]⟩ :: .int .i64 0 :: .int .i64 0 :: u 12 :: u 13 :: u 14 :: u 15 :: u 16 :: u 17 :: u 18 :: u 19 :: u 20 :: u 21 :: u 22 :: u 23 :: u 24 :: u 25 :: u 26 :: u 27 :: u 28 :: u 29 :: u 30 :: u 31 :: u 32 :: u 33 :: u 34 :: u 35 :: u 36 :: u 37 :: u 38 :: u 39 :: u 40 :: u 41 :: u 42 :: u 43 :: u 44 :: u 45 :: u 46 :: u 47 :: u 48 :: u 49 :: u 50 :: u 51 :: u 52 :: u 53 :: u 54 :: u 55 :: u 56 :: u 57 :: u 58 :: u 59 :: u 60 :: u 61 :: u 62 :: u 63 :: u 64 :: u 65 :: u 66 :: u 67 :: u 68 :: u 69 :: u 70 :: u 71 :: u 72 :: u 73 :: u 74 :: u 75 :: u 76 :: u 77 :: u 78 :: u 79 :: u 80 :: u 81 :: u 82 :: u 83 :: u 84 :: u 85 :: u 86 :: u 87 :: u 88 :: u 89 :: u 90 :: u 91 :: u 92 :: u 93 :: u 94 :: u 95 :: u 96 :: u 97 :: u 98 :: u 99 :: u 100 :: u 101 :: u 102 :: u 103 :: u 104 :: u 105 :: u 106 :: u 107 :: u 108 :: u 109 :: u 110 :: u 111 :: u 112 :: u 113 :: u 114 :: u 115 :: u 116 :: u 117 :: u 118 :: u 119 :: u 120 :: u 121 :: u 122 :: u 123 :: u 124 :: u 125 :: u 126 :: u 127 :: u 128 :: u 129 :: u 130 :: u 131 :: u 132 :: u 133 :: u 134 :: u 135 :: u 136 :: u 137 :: u 138 :: u 139 :: u 140 :: u 141 :: u 142 :: u 143 :: u 144 :: u 145 :: u 146 :: u 147 :: u 148 :: u 149 :: u 150 :: u 151 :: []), defers := [] } W := by
  conv => arg 2; whnf
  have HQ := Kp.mk hQ
  have HX := Kp.mk hX
  have HS := Kp.mk hs
  have HN0 := Kp.mk hN
  clear hQ hX hs hN
  refine wp_block ?_
  refine wp_loop_ghost_k (fun n a' w' => ∃ (i : Nat) (D : DiskS) (p : PlateS) (u : Nat → Value), (n + i = N ∧ WrI w w' b m gp half i D p) ∧ a' = { tmps := List.toArray (.int .i64 size :: .slice A N c :: u 2 :: u 3 :: u 4 :: .pointer (some ⟨b, 0, none⟩) :: u 6 :: .pointer (some ⟨gp, 0, none⟩) :: u 8 :: .string (bs p.text) :: .int .i64 p.number :: .int .i64 (i : Int) :: u 12 :: u 13 :: u 14 :: u 15 :: u 16 :: u 17 :: u 18 :: u 19 :: u 20 :: u 21 :: u 22 :: u 23 :: u 24 :: u 25 :: u 26 :: u 27 :: u 28 :: u 29 :: u 30 :: u 31 :: u 32 :: u 33 :: u 34 :: u 35 :: u 36 :: u 37 :: u 38 :: u 39 :: u 40 :: u 41 :: u 42 :: u 43 :: u 44 :: u 45 :: u 46 :: u 47 :: u 48 :: u 49 :: u 50 :: u 51 :: u 52 :: u 53 :: u 54 :: u 55 :: u 56 :: u 57 :: u 58 :: u 59 :: u 60 :: u 61 :: u 62 :: u 63 :: u 64 :: u 65 :: u 66 :: u 67 :: u 68 :: u 69 :: u 70 :: u 71 :: u 72 :: u 73 :: u 74 :: u 75 :: u 76 :: u 77 :: u 78 :: u 79 :: u 80 :: u 81 :: u 82 :: u 83 :: u 84 :: u 85 :: u 86 :: u 87 :: u 88 :: u 89 :: u 90 :: u 91 :: u 92 :: u 93 :: u 94 :: u 95 :: u 96 :: u 97 :: u 98 :: u 99 :: u 100 :: u 101 :: u 102 :: u 103 :: u 104 :: u 105 :: u 106 :: u 107 :: u 108 :: u 109 :: u 110 :: u 111 :: u 112 :: u 113 :: u 114 :: u 115 :: u 116 :: u 117 :: u 118 :: u 119 :: u 120 :: u 121 :: u 122 :: u 123 :: u 124 :: u 125 :: u 126 :: u 127 :: u 128 :: u 129 :: u 130 :: u 131 :: u 132 :: u 133 :: u 134 :: u 135 :: u 136 :: u 137 :: u 138 :: u 139 :: u 140 :: u 141 :: u 142 :: u 143 :: u 144 :: u 145 :: u 146 :: u 147 :: u 148 :: u 149 :: u 150 :: u 151 :: []), defers := [] }) N
    ⟨0, D0, ⟨half, 0, 0, []⟩, u, ⟨rfl, h0⟩, rfl⟩ ?_
  clear h0
  rintro n a' w' ⟨i, D, p, u, ⟨hn, hI⟩, rfl⟩ J K hJ hK
  have HJ := Kp.mk hJ
  have HK := Kp.mk hK
  have HN := Kp.mk hn
  have HI := Kp.mk hI
  have hnum := hI.num
  have hpos := hI.alone.pos
  have hcnt := hI.cnt
  have hph := hI.half
  clear hJ hK hn hI
  by_cases hlt : i < N
  · have hltz : (i : Int) < (N : Int) := by omega
    have hi30 : i < 30 := by omega
    obtain ⟨x, hx⟩ : ∃ x, l[i]? = some x := ⟨_, List.getElem?_eq_getElem (by rw [← HN0.out]; exact hlt)⟩
    obtain ⟨bA, oA, rfl, hbA, hcc⟩ := HX.out.out (by rw [← HN0.out]; omega)
    have l1 := Fr.cell (hcc i x hx) HI.out.fr (fun h => h)
    have HC := Kp.mk (hcc i x hx)
    have hxl := HS.out i x hx
    have hxs : (bs x).size = x.length := bs_size x
    have HXX := Kp.mk hx
    clear hcc hx hbA
    by_cases hr : x.length + 40 ≤ half * 32
    · have hrz : ¬ (half : Int) * 32 - 40 < (x.length : Int) := by omega
      have hrd : decide ((half : Int) * 32 - 40 < (x.length : Int)) = false := by simpa using hrz
      have CW1 := Kp.mk (write_well (s := x) HI.out.disk HI.out.ok (by omega) (by rw [hph]; exact HI.out.size) HI.out.pl (fun h => h.2 rfl) HI.out.alone.side hpos (by omega) (by omega) (by rw [hph]; exact hr))
      have HR := Kp.mk hr
      have HRD := Kp.mk hrd
      clear hr hrz hrd
      go_wp2_with (go_at_call 26; (with_reducible refine CW1.out.mono ?_); rintro e w1 ⟨rfl, d1, q1, f1⟩; have HI1 := Kp.mk (HI.out.wrote (by omega) HR.out (by omega) d1 q1 f1); have l11 := Fr.cell HC.out HI1.out.fr (fun h => h))
      have CRM : Kp (∀ n, Calls Try.prog 28 #[.pointer (some ⟨gp, 0, none⟩)] (w1.drewN n) fun e w'' => e = .returned (.int .i64 ((half : Int) * 32 - 40)) ∧ w'' = w1.drewN n) := ⟨fun n => by
        have h := room_any (HI1.out.pl.no ((Fr.refl No w1).drewN n)) (by rw [HI1.out.half]; omega)
        rw [HI1.out.half] at h
        exact h⟩
      have hrd := HRD.out
      clear l1
      go_quiet ((go_at_call 28; exact Calls.quiet_of_same (CRM.out _)))
      rename_i nq
      have l12 := Fr.cell l11 ((Fr.refl No w1).drewN nq) (fun h => h)
      have HI1 := Kp.mk (HI1.out.no ((Fr.refl No w1).drewN nq))
      clear hrd CRM l11
      go_wp2_with fail
      refine (open_any HI1.out.disk HI1.out.ok half HI1.out.size h4 (by omega)).mono ?_
      rintro e w3 ⟨gq, rfl, Pq, hgq, Dq, f3⟩
      have os := open_same HI1.out.alone.toTellsAlone
      rw [HI1.out.half] at os
      have HI2 : Kp (WrI w w3 b m gp half (i + 1) (wellD D p x) (wroteP p x)) := ⟨HI1.out.opened f3 Dq⟩
      have CTp : Kp (Calls Try.prog 24 #[.pointer (some ⟨gp, 0, none⟩)] w3 fun e w' => e = .returned (.string (bs (wroteP p x).text)) ∧ w' = w3) := ⟨text_any HI2.out.pl⟩
      have CNp : Kp (Calls Try.prog 23 #[.pointer (some ⟨gp, 0, none⟩)] w3 fun e w' => e = .returned (.int .i64 (wroteP p x).number) ∧ w' = w3) := ⟨pnumber_any HI2.out.pl⟩
      have CTq : Kp (Calls Try.prog 24 #[.pointer (some ⟨gq, 0, none⟩)] w3 fun e w' => e = .returned (.string (bs (wroteP p x).text)) ∧ w' = w3) := ⟨by have h := text_any Pq; rw [os.2] at h; exact h⟩
      have CNq : Kp (Calls Try.prog 23 #[.pointer (some ⟨gq, 0, none⟩)] w3 fun e w' => e = .returned (.int .i64 (wroteP p x).number) ∧ w' = w3) := ⟨by have h := pnumber_any Pq; rw [os.1] at h; exact h⟩
      have CW : Kp (Calls Try.prog 30 #[.pointer (some ⟨b, 0, none⟩)] w3 fun e w' => e = .returned (.int .i64 0) ∧ w' = w3) := ⟨by
        obtain ⟨v, hv, _⟩ := HI2.out.disk.ex
        have h := waiting_any hv
        rw [HI2.out.ok.quiet] at h
        exact h⟩
      clear os Pq Dq f3
      go_wp2_with (first
        | (go_at_call 24; (with_reducible refine CTp.out.mono ?_); rintro e w11 ⟨rfl, hww⟩; subst hww)
        | (go_at_call 24; (with_reducible refine CTq.out.mono ?_); rintro e w11 ⟨rfl, hww⟩; subst hww)
        | (go_at_call 23; (with_reducible refine CNp.out.mono ?_); rintro e w11 ⟨rfl, hww⟩; subst hww)
        | (go_at_call 23; (with_reducible refine CNq.out.mono ?_); rintro e w11 ⟨rfl, hww⟩; subst hww)
        | (go_at_call 30; (with_reducible refine CW.out.mono ?_); rintro e w11 ⟨rfl, hww⟩; subst hww))
      refine HK.out _ _ (Handed.intro (n - 1) (by have := HN.out; omega) (HJ.out _ _ _ ⟨i + 1, (wellD D p x), (wroteP p x), ex_u ⟨by have := HN.out; omega, HI2.out⟩ rfl⟩))
    · have hrz : (half : Int) * 32 - 40 < (x.length : Int) := by omega
      have hrd : decide ((half : Int) * 32 - 40 < (x.length : Int)) = true := by simpa using hrz
      have CW1 := Kp.mk (write_long (s := x) HI.out.pl (by omega) (by rw [hph]; exact hrz))
      have HRD := Kp.mk hrd
      clear hr hrz hrd
      go_wp2_with (go_at_call 26; (with_reducible refine CW1.out.mono ?_); rintro e w1 ⟨rfl, f1⟩; have HI1 := Kp.mk (HI.out.more.no f1); have l11 := Fr.cell HC.out HI1.out.fr (fun h => h))
      have CRM : Kp (∀ n, Calls Try.prog 28 #[.pointer (some ⟨gp, 0, none⟩)] (w1.drewN n) fun e w'' => e = .returned (.int .i64 ((half : Int) * 32 - 40)) ∧ w'' = w1.drewN n) := ⟨fun n => by
        have h := room_any (HI1.out.pl.no ((Fr.refl No w1).drewN n)) (by rw [HI1.out.half]; omega)
        rw [HI1.out.half] at h
        exact h⟩
      have hrd := HRD.out
      clear l1
      go_quiet ((go_at_call 28; exact Calls.quiet_of_same (CRM.out _)))
      rename_i nq
      have l12 := Fr.cell l11 ((Fr.refl No w1).drewN nq) (fun h => h)
      have HI1 := Kp.mk (HI1.out.no ((Fr.refl No w1).drewN nq))
      clear hrd CRM l11
      go_wp2_with fail
      refine (open_any HI1.out.disk HI1.out.ok half HI1.out.size h4 (by omega)).mono ?_
      rintro e w3 ⟨gq, rfl, Pq, hgq, Dq, f3⟩
      have os := open_same HI1.out.alone.toTellsAlone
      rw [HI1.out.half] at os
      have HI2 : Kp (WrI w w3 b m gp half (i + 1) D p) := ⟨HI1.out.opened f3 Dq⟩
      have CTp : Kp (Calls Try.prog 24 #[.pointer (some ⟨gp, 0, none⟩)] w3 fun e w' => e = .returned (.string (bs p.text)) ∧ w' = w3) := ⟨text_any HI2.out.pl⟩
      have CNp : Kp (Calls Try.prog 23 #[.pointer (some ⟨gp, 0, none⟩)] w3 fun e w' => e = .returned (.int .i64 p.number) ∧ w' = w3) := ⟨pnumber_any HI2.out.pl⟩
      have CTq : Kp (Calls Try.prog 24 #[.pointer (some ⟨gq, 0, none⟩)] w3 fun e w' => e = .returned (.string (bs p.text)) ∧ w' = w3) := ⟨by have h := text_any Pq; rw [os.2] at h; exact h⟩
      have CNq : Kp (Calls Try.prog 23 #[.pointer (some ⟨gq, 0, none⟩)] w3 fun e w' => e = .returned (.int .i64 p.number) ∧ w' = w3) := ⟨by have h := pnumber_any Pq; rw [os.1] at h; exact h⟩
      have CW : Kp (Calls Try.prog 30 #[.pointer (some ⟨b, 0, none⟩)] w3 fun e w' => e = .returned (.int .i64 0) ∧ w' = w3) := ⟨by
        obtain ⟨v, hv, _⟩ := HI2.out.disk.ex
        have h := waiting_any hv
        rw [HI2.out.ok.quiet] at h
        exact h⟩
      clear os Pq Dq f3
      go_wp2_with (first
        | (go_at_call 24; (with_reducible refine CTp.out.mono ?_); rintro e w11 ⟨rfl, hww⟩; subst hww)
        | (go_at_call 24; (with_reducible refine CTq.out.mono ?_); rintro e w11 ⟨rfl, hww⟩; subst hww)
        | (go_at_call 23; (with_reducible refine CNp.out.mono ?_); rintro e w11 ⟨rfl, hww⟩; subst hww)
        | (go_at_call 23; (with_reducible refine CNq.out.mono ?_); rintro e w11 ⟨rfl, hww⟩; subst hww)
        | (go_at_call 30; (with_reducible refine CW.out.mono ?_); rintro e w11 ⟨rfl, hww⟩; subst hww))
      refine HK.out _ _ (Handed.intro (n - 1) (by have := HN.out; omega) (HJ.out _ _ _ ⟨i + 1, D, p, ex_u ⟨by have := HN.out; omega, HI2.out⟩ rfl⟩))
  · obtain rfl : i = N := by have := HN.out; omega
    have hltz : ¬ (i : Int) < (i : Int) := by omega
    go_wp2_with fail
    exact K_u (fun u => HQ.out u _ HI.out.fr) rfl
end Go.Proofs.Ytaohfmmapammcaa.Pl

/- The law PlateWrites, whole. Conditions: sizes are bounded, as written out. -/
set_option linter.unusedSimpArgs false
set_option linter.unusedVariables false
namespace Go.Proofs.Ytaohfmmapammcaa.Pl
open Go Go.RowKit Go.Proofs.YtaohfmmapammcaaW.PrintWords Go.Proofs.YtaohfmmapammcaaW.PrintLast Go.Proofs.Ytaohfmmapammcaa.Sha Go.Proofs.Ytaohfmmapammcaa.Dig Go.Proofs.Ytaohfmmapammcaa.Ev Go.Proofs.Ytaohfmmapammcaa.Reg Go.Proofs.Ytaohfmmapammcaa.Ch

set_option maxHeartbeats 1000000 in
theorem newbad_any (n : Int) (h : n < 1 ∨ 8192 < n) (w : World) : Calls Try.prog 19 #[.int .i64 n] w fun e w' => e = .returned (.tuple #[.pointer none, .int .i64 1]) ∧ w' = w := by
  by_cases h1 : n < 1
  · clear h
    go_enter Try.func19, Try.ntmps19
    go_wp2_with fail
    go_ret2
    exact ⟨rfl, rfl⟩
  · have h2 : 8192 < n := by omega
    have h3 : 1 ≤ n := by omega
    clear h h1
    go_enter Try.func19, Try.ntmps19
    go_wp2_with fail
    go_ret2
    exact ⟨rfl, rfl⟩
set_option maxHeartbeats 1000000 in
theorem refroom_any (n : Int) (h0 : 0 ≤ n) (h1 : n ≤ 8192) (w : World) : Calls Try.prog 29 #[.int .i64 n] w fun e w' => e = .returned (.int .i64 (n / 2 * 32 - 40)) ∧ w' = w := by
  go_enter Try.func29, Try.ntmps29
  go_wp2_with fail
  go_ret
  exact ⟨rfl, rfl⟩

set_option maxHeartbeats 8000000 in
set_option maxRecDepth 100000 in
theorem writes_any (size : Int) (l : List B) (A : Option Addr) (c : Nat) (w : World) (hX : Txts w A l) (hs : ∀ (i : Nat) (x : B), l[i]? = some x → x.length ≤ 1099511627776000) (hl : l.length ≤ 1099511627776000) :
    Calls Try.prog 5 #[.int .i64 size, .slice A l.length c] w fun e w' => e = .returned (.bool true) ∧ Fr No w w' := by
  have CA : Kp (∀ W, Calls Try.prog 18 #[] W fun e w' => e = .returned (.bool true) ∧ Fr No W w') := ⟨awake_any⟩
  have CF : Kp (∀ W, Fr No w W → Calls Try.prog 27 #[.slice A l.length c] W fun e w' => e = .returned (.bool (fewB l)) ∧ w' = W) := ⟨fun W f => few_any l A c W (hX.no f) hs hl⟩
  cases hf : fewB l with
  | false =>
    rw [hf] at CF
    clear hX hs hf
    go_enter Try.func5, Try.ntmps5
    go_wp2_with (first
      | (go_at_call 18; refine (CA.out _).mono ?_; rintro e w1 ⟨rfl, f1⟩)
      | (go_at_call 27; refine (CF.out _ f1).mono ?_; rintro e w2 ⟨rfl, hww⟩; subst hww))
    go_ret
    exact ⟨rfl, f1⟩
  | true =>
    rw [hf] at CF
    obtain ⟨hN30, hs5⟩ := few_true hf
    have HX := Kp.mk hX
    have HS5 := Kp.mk hs5
    obtain ⟨N, hN⟩ : ∃ N, N = l.length := ⟨_, rfl⟩
    rw [← hN] at CF hN30 ⊢
    have HN := Kp.mk hN
    clear hX hs hf hs5 hl hN
    by_cases c1 : 400 < size
    · by_cases c2 : size ≤ 8192
      · go_enter Try.func5, Try.ntmps5
        go_wp2_with (first
          | (go_at_call 18; refine (CA.out _).mono ?_; rintro e w1 ⟨rfl, f1⟩)
          | (go_at_call 27; refine (CF.out _ f1).mono ?_; rintro e w2 ⟨rfl, hww⟩; subst hww))
        go_ret
        exact ⟨rfl, f1⟩
      · have c2z : 8192 < size := by omega
        have CB := Kp.mk (newbad_any size (.inr c2z))
        clear c2
        go_enter Try.func5, Try.ntmps5
        go_wp2_with (first
          | (go_at_call 18; refine (CA.out _).mono ?_; rintro e w1 ⟨rfl, f1⟩)
          | (go_at_call 27; refine (CF.out _ f1).mono ?_; rintro e w2 ⟨rfl, hww⟩; subst hww)
          | (go_at_call 19; refine (CB.out _).mono ?_; rintro e w3 ⟨rfl, hww⟩; subst hww))
        go_ret
        exact ⟨rfl, f1⟩
    · have c1z : size ≤ 400 := by omega
      by_cases c3 : size < 1
      · have CB := Kp.mk (newbad_any size (.inl c3))
        clear c1
        go_enter Try.func5, Try.ntmps5
        go_wp2_with (first
          | (go_at_call 18; refine (CA.out _).mono ?_; rintro e w1 ⟨rfl, f1⟩)
          | (go_at_call 27; refine (CF.out _ f1).mono ?_; rintro e w2 ⟨rfl, hww⟩; subst hww)
          | (go_at_call 19; refine (CB.out _).mono ?_; rintro e w3 ⟨rfl, hww⟩; subst hww))
        go_ret
        exact ⟨rfl, f1⟩
      · obtain ⟨k, rfl⟩ := Int.eq_ofNat_of_zero_le (by omega : 0 ≤ size)
        have k1 : (1 : Int) ≤ (k : Int) := by omega
        have CN := Kp.mk (fun W => new_any (k : Int) k1 (by omega) W)
        clear c1 c3
        by_cases hb : k < 8 ∨ k % 2 ≠ 0
        · have CO : Kp (∀ W S b m, Dk W S b m (newD k) → Calls Try.prog 22 #[.pointer (some ⟨b, 0, none⟩)] W fun e w' => e = .returned (.tuple #[.pointer none, .int .i64 1]) ∧ w' = W) := ⟨fun W S b m h => open_bad h hb⟩
          by_cases h8 : (k : Int) < 8
          · clear hb
            go_enter Try.func5, Try.ntmps5
            go_wp2_with (first
              | (go_at_call 18; refine (CA.out _).mono ?_; rintro e w1 ⟨rfl, f1⟩)
              | (go_at_call 27; refine (CF.out _ f1).mono ?_; rintro e w2 ⟨rfl, hww⟩; subst hww)
              | (go_at_call 19; refine (CN.out _).mono ?_; rintro e w3 ⟨b, m, rfl, d3, hb, hm, f3⟩; have D3 : Kp (Dk w3 (fun k => w2.heap.size ≤ k) b m (newD k)) := ⟨⟨⟨.slice none 0 0, d3, fun k hk => by simp [Value.ownBlock] at hk⟩, hb, hm, fun k hk => Nat.le_trans f3.size hk⟩⟩)
              | (go_at_call 22; refine (CO.out _ _ _ _ D3.out).mono ?_; rintro e w4 ⟨rfl, hww⟩; subst hww))
            go_ret
            exact ⟨rfl, f1.no f3⟩
          · have h8z : (8 : Int) ≤ (k : Int) := by omega
            have hm2 : (k : Int) % 2 = 1 := by omega
            clear hb h8
            go_enter Try.func5, Try.ntmps5
            go_wp2_with (first
              | (go_at_call 18; refine (CA.out _).mono ?_; rintro e w1 ⟨rfl, f1⟩)
              | (go_at_call 27; refine (CF.out _ f1).mono ?_; rintro e w2 ⟨rfl, hww⟩; subst hww)
              | (go_at_call 19; refine (CN.out _).mono ?_; rintro e w3 ⟨b, m, rfl, d3, hb, hm, f3⟩; have D3 : Kp (Dk w3 (fun k => w2.heap.size ≤ k) b m (newD k)) := ⟨⟨⟨.slice none 0 0, d3, fun k hk => by simp [Value.ownBlock] at hk⟩, hb, hm, fun k hk => Nat.le_trans f3.size hk⟩⟩)
              | (go_at_call 22; refine (CO.out _ _ _ _ D3.out).mono ?_; rintro e w4 ⟨rfl, hww⟩; subst hww))
            go_ret
            exact ⟨rfl, f1.no f3⟩
        · obtain ⟨half, hh⟩ : ∃ half, k = 2 * half := ⟨k / 2, by omega⟩
          have h4 : 4 ≤ half := by omega
          have h200 : half ≤ 200 := by omega
          have h8z : (8 : Int) ≤ (k : Int) := by omega
          have hm2 : (k : Int) % 2 = 0 := by omega
          have hrr : (k : Int) / 2 * 32 - 40 = (half : Int) * 32 - 40 := by omega
          have CRR : Kp (∀ W, Calls Try.prog 29 #[.int .i64 (k : Int)] W fun e w' => e = .returned (.int .i64 ((half : Int) * 32 - 40)) ∧ w' = W) := ⟨fun W => by
            have h := refroom_any (k : Int) (by omega) (by omega) W
            rw [hrr] at h
            exact h⟩
          have CO : Kp (∀ W S b m, Dk W S b m (newD k) → Calls Try.prog 22 #[.pointer (some ⟨b, 0, none⟩)] W fun e w' => ∃ gp, e = .returned (.tuple #[.pointer (some ⟨gp, 0, none⟩), .int .i64 0]) ∧ Blk w' gp 123 (plL b ⟨half, 0, 0, []⟩) ∧ W.heap.size ≤ gp ∧ Dk w' (Less S gp) b m (newD k) ∧ Fr No W w') := ⟨fun W S b m h => by
            have h := open_any h (newD_ok k) half hh h4 (by omega)
            rw [show (newD k).lasts = fun _ => none from rfl, open_fresh half (by omega)] at h
            exact h⟩
          have HH := Kp.mk hh
          clear hb hrr hh
          go_enter Try.func5, Try.ntmps5
          go_upto_block 0 with (first
            | (go_at_call 18; refine (CA.out _).mono ?_; rintro e w1 ⟨rfl, f1⟩)
            | (go_at_call 27; refine (CF.out _ f1).mono ?_; rintro e w2 ⟨rfl, hww⟩; subst hww)
            | (go_at_call 19; refine (CN.out _).mono ?_; rintro e w3 ⟨b, m, rfl, d3, hb, hm, f3⟩; have D3 : Kp (Dk w3 (fun k => w2.heap.size ≤ k) b m (newD k)) := ⟨⟨⟨.slice none 0 0, d3, fun k hk => by simp [Value.ownBlock] at hk⟩, hb, hm, fun k hk => Nat.le_trans f3.size hk⟩⟩)
            | (go_at_call 22; refine (CO.out _ _ _ _ D3.out).mono ?_; rintro e w4 ⟨gp, rfl, P4, hgp, D4, f4⟩)
            | (go_at_call 28; refine (room_any P4 (by show half ≤ 4096; omega)).mono ?_; rintro e w5 ⟨rfl, hww⟩; subst hww)
            | (go_at_call 29; refine (CRR.out _).mono ?_; rintro e w5 ⟨rfl, hww⟩; subst hww)
            | (go_at_call 24; refine (text_any P4).mono ?_; rintro e w5 ⟨rfl, hww⟩; subst hww)
            | (go_at_call 23; refine (pnumber_any P4).mono ?_; rintro e w5 ⟨rfl, hww⟩; subst hww))
          have z1 := f1.size
          have z3 := f3.size
          have hI : WrI w w5 b m gp half 0 (newD k) ⟨half, 0, 0, []⟩ := ⟨D4.wide (fun x hx => ⟨Nat.le_trans z1 hx.1, hx.2⟩), newD_ok k, HH.out, by show (0 : Int) ≤ 5000 * ((0 : Nat) : Int); decide, P4, rfl, fresh_alone half (by omega), by show (0 : Int) ≤ ((0 : Nat) : Int); decide, by omega, (f1.no f3).no f4⟩
          refine wp_u (fun u => writes_loop w (k : Int) A N c b m gp half l HN.out hN30 HX.out HS5.out h4 h200 w5 (newD k) hI u _ ?_) rfl
          intro u ws f
          go_wp2_with fail
          go_ret
          exact ⟨rfl, f⟩
end Go.Proofs.Ytaohfmmapammcaa.Pl

/- Texts that came in by a row. No conditions beside those written out. -/
set_option linter.unusedSimpArgs false
set_option linter.unusedVariables false
namespace Go.Proofs.Ytaohfmmapammcaa
open Go.ChangeShapes Go.WideShapes Go.ChangeAt Go.RowKit

theorem Try.own : ownKnob Try.prog.godebug = none := by kernel_rfl
theorem Try.laidOut : laidOutB Try.prog = true := by kernel_rfl
theorem Try.cellsStr : Try.prog.cellsOf 9 = 1 := by kernel_rfl
theorem weightsAll_mem {H : Type} {P : Program} {e : TypeId} : ∀ {l : List (DataW H)} {d : DataW H}, d ∈ l → ∀ n ∈ d.weights P e, n ∈ DataW.weightsAll P e l
  | d' :: r, d, hd, n, hn => by
    simp only [DataW.weightsAll, List.mem_append]
    rcases List.mem_cons.1 hd with rfl | h
    · exact Or.inl hn
    · exact Or.inr (weightsAll_mem h n hn)
/-- Texts that came in: they can be read, and are no larger than may be. -/
theorem txts_of {H : Type} {enc : TypeId × Value → H} {W : World} {a : Option Addr} {len cap : Nat} {d : DataW H} {p : List MemPlace} (h : DataW.Trod enc Try.prog W 0 (fun _ => true) true 22 (.slice a len cap) d p)
    {ts : List TypeId} {ds : List (DataW H)} (hz : (DataW.weightsEach Try.prog ts ds).all (· ≤ reachBytes) = true) {j : Nat} (hj : ts[j]? = some 22) (hd : ds[j]? = some d) :
    ∃ l : List (List UInt8), Pl.Txts W a l ∧ l.length = len ∧ len ≤ 1099511627776000 ∧ ∀ (i : Nat) (x : List UInt8), l[i]? = some x → x.length ≤ 1099511627776000 := by
  have hrb : reachBytes < 2 ^ 47 := reachBytes_lt
  obtain ⟨fuel, hf⟩ := h
  rcases open_strings Try.underlying22 Try.underlying9 Try.cellsStr hf with ⟨hcs, _⟩ | ⟨a', len', cap', ss, hcs, hcw, hl, hmx, hzz, hx, hcell, hsz⟩
  · simp [Value.cells] at hcs
    obtain ⟨rfl, rfl, rfl⟩ := hcs
    exact ⟨[], ⟨fun h => absurd h (by simp)⟩, rfl, Nat.zero_le _, fun i x h => by simp at h⟩
  · simp [Value.cells] at hcs
    obtain ⟨rfl, rfl, rfl⟩ := hcs
    simp only [if_true] at hzz
    simp only [Prod.mk.injEq] at hx
    obtain ⟨rfl, rfl⟩ := hx
    have hl2 : (ss.take len).length = len := by rw [List.length_take]; omega
    have hget : ∀ j, j < len → W.cell? (a'.add j) = some (.string ((ss.take len).getD j ByteArray.empty)) := fun j hj => by
      have := hcell j (by omega)
      rw [this]
      simp [List.getD_eq_getElem?_getD, List.getElem?_take, hj]
    have hw := sized_slice hz hj hd Try.underlying22
    rw [show Try.prog.bytesOf 9 = 16 by kernel_rfl] at hw
    simp only [strs, List.length_map, List.length_take, List.length_drop] at hw
    refine ⟨(ss.take len).map fun s => s.data.toList, ⟨fun h0 => ?_⟩, by rw [List.length_map, hl2], by omega, fun i x hi => ?_⟩
    · rw [List.length_map, hl2] at h0
      obtain ⟨b, o, sp⟩ := a'
      have h00 := hget 0 h0
      cases sp with
      | some q =>
        exfalso
        simp [World.cell?, Addr.add] at h00
        try (split at h00 <;> simp_all)
      | none =>
        refine ⟨b, o, rfl, ?_, fun i n hi => ?_⟩
        · rw [Addr.add_lit] at h00
          exact World.block_lt_of_cell? W _ h00
        · obtain ⟨s, hs, rfl⟩ : ∃ s, (ss.take len)[i]? = some s ∧ s.data.toList = n := by rw [List.getElem?_map] at hi; exact Option.map_eq_some_iff.1 hi
          have hi2 : i < len := by have := (List.getElem?_eq_some_iff.1 hs).1; omega
          have := hget i hi2
          rw [Addr.add_lit, List.getD_eq_getElem?_getD, hs] at this
          exact this
    · obtain ⟨s, hs, rfl⟩ : ∃ s, (ss.take len)[i]? = some s ∧ s.data.toList = x := by rw [List.getElem?_map] at hi; exact Option.map_eq_some_iff.1 hi
      have hm : s ∈ ss.take len := List.mem_of_getElem? hs
      have hmem : DataW.lit (.string s.data.toList) ∈ (strs (ss.take len) : List (DataW H)) := List.mem_map_of_mem hm
      have hin : s.data.toList.length ∈ DataW.weightsEach Try.prog ts ds := by
        refine DataW.weights_mem_each hj hd _ ?_
        simp only [DataW.weights, Try.underlying22, List.mem_cons, List.mem_append]
        exact Or.inr (Or.inl (weightsAll_mem hmem _ (by simp [DataW.weights])))
      have : s.data.toList.length ≤ reachBytes := of_decide_eq_true (List.all_eq_true.1 hz _ hin)
      omega
end Go.Proofs.Ytaohfmmapammcaa
