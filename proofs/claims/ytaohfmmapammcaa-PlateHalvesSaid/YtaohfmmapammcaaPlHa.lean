/- Texts joined by merge.py: PlHalves, PlHalvesAny, PlHaRow. -/
import Derived.Test.YtaohfmmapammcaaPlE
/- The law PlateHalves. Conditions: sizes are bounded, as written out. -/
set_option linter.unusedSimpArgs false
set_option linter.unusedVariables false
namespace Go.Proofs.Ytaohfmmapammcaa.Pl
open Go Go.RowKit Go.Proofs.YtaohfmmapammcaaW.PrintWords Go.Proofs.YtaohfmmapammcaaW.PrintLast Go.Proofs.Ytaohfmmapammcaa.Sha Go.Proofs.Ytaohfmmapammcaa.Dig Go.Proofs.Ytaohfmmapammcaa.Ev Go.Proofs.Ytaohfmmapammcaa.Reg Go.Proofs.Ytaohfmmapammcaa.Ch

abbrev RdN : Nat := 31
noncomputable def bodyHa : Code := Try.f6.body.getD .skip
theorem zeroDiskP : (Try.prog.info? 31).bind (·.zero) = some (.pointer none) := by kernel_rfl
theorem zeroArr2 : (Try.prog.info? 50).bind (·.zero) = some (.agg #[.string ⟨#[]⟩, .string ⟨#[]⟩]) := by kernel_rfl
theorem sizeDiskP : (Try.prog.info? 31).map (·.size) = some 1 := by kernel_rfl

set_option maxHeartbeats 4000000 in
set_option maxRecDepth 100000 in
theorem half_any {W : World} {S : Nat → Prop} {b m gd : Nat} {D : DiskS} (hD : Dk W S b m D) (hok : OkD D) (hz : D.size = 8) (hd : Blk W gd 31 [.pointer (some ⟨b, 0, none⟩)]) (side : Nat) (hs : side ≤ 1) :
    Calls Try.prog 31 #[.int .i64 (side : Int), .pointer (some ⟨gd, 0, none⟩)] W fun e w' => e = .returned (.string (bs (halfL D.lasts 4 side))) ∧ w' = W := by
  have c0 := hd.at_ 0 rfl
  have CR : Kp (∀ i : Nat, i < 4 → Calls Try.prog 25 #[.pointer (some ⟨b, 0, none⟩), .int .i64 (4 * (side : Int) + (i : Int))] W fun e w'' => e = .returned (.tuple #[.string (bs (secF D.lasts ((side * 4 + i : Nat) : Int))), .int .i64 0]) ∧ w'' = W) := ⟨fun i hi => by
    have e : 4 * (side : Int) + (i : Int) = ((side * 4 + i : Nat) : Int) := by omega
    have h := read_any hD ((side * 4 + i : Nat) : Int) (by rw [hok.quiet]; simp)
    have hrd : readD D ((side * 4 + i : Nat) : Int) = (secF D.lasts ((side * 4 + i : Nat) : Int), 0) := by
      unfold readD
      rw [if_neg (by rw [hok.asked _ (by omega) (by rw [hz]; omega)]; decide), hok.found]
    rw [hrd] at h
    rw [e]
    exact h⟩
  have HLEN := Kp.mk (half_len hok.full (side * 4))
  have HSN := Kp.mk (half_snoc D.lasts (side * 4))
  have HF := Kp.mk (fun a => secF_len hok.full a)
  obtain ⟨R, hR⟩ : ∃ R, R = halfL D.lasts 4 side := ⟨_, rfl⟩
  rw [← hR]
  have HR := Kp.mk hR
  have s1 : (side : Int) ≤ 1 := by omega
  clear hD hok hd hR
  go_enter Try.func31, Try.ntmps31
  go_wp2_with fail
  go_loopg [4, 5] 4 (fun gg s4 s5 wr => ∃ i : Nat, i ≤ 4 ∧ 4 - i ≤ gg ∧ s4 = .string (bs ((List.range i).flatMap fun j => secF D.lasts ((side * 4 + j : Nat) : Int))) ∧ s5 = .int .i64 i ∧ wr = W)
  case atStart => exact ⟨0, by omega, by omega, rfl, rfl, rfl⟩
  case round =>
    obtain ⟨i, hi, hg, rfl, rfl, rfl⟩ := hrel
    by_cases hlt : i < 4
    · have hltz : (i : Int) < 4 := by omega
      have hl := HLEN.out i
      have hsn := Kp.mk (HSN.out i)
      have C := Kp.mk (CR.out i hlt)
      have hy32 : (secF D.lasts ((side * 4 + i : Nat) : Int)).length = 32 := HF.out _
      generalize ((List.range i).flatMap fun j => secF D.lasts ((side * 4 + j : Nat) : Int)) = X at hl hsn
      generalize secF D.lasts ((side * 4 + i : Nat) : Int) = Y at hsn C hy32
      have hxs : (bs X).size ≤ 128 := by rw [bs_size]; omega
      have hys : (bs Y).size ≤ 32 := by rw [bs_size]; omega
      have hb : bs X ++ bs Y = bs (X ++ Y) := bs_append X Y
      have HBB := Kp.mk hb
      clear hl hb hy32
      go_wp2_with (go_at_call 25; (with_reducible refine C.out.mono ?_); rintro e w1 ⟨rfl, hww⟩; subst hww)
      go_roundg (4 - (i + 1))
      case measure => omega
      case rel => exact ⟨i + 1, by omega, by omega, by rw [hsn.out, ← HBB.out], by go_num, rfl⟩
    · obtain rfl : i = 4 := by omega
      go_wp2_with fail
      go_ret
      exact ⟨by rw [HR.out]; rfl, rfl⟩

/-- Places of the law. -/
structure HaP (w : World) (S : Nat → Prop) (gp g3 g7 : Nat) : Prop where
  up : ∀ k, S k → w.heap.size ≤ k
  p : w.heap.size ≤ gp
  n3 : w.heap.size ≤ g3
  n7 : w.heap.size ≤ g7
  sp : ¬ S gp
  s3 : ¬ S g3
  s7 : ¬ S g7
  p3 : g3 ≠ gp
  p7 : g7 ≠ gp
  e37 : g3 ≠ g7
/-- What the law holds between two writings. -/
structure HaI (w w' : World) (S : Nat → Prop) (b m gp g3 g7 i : Nat) (D : DiskS) (p : PlateS) : Prop where
  disk : Dk w' S b m D
  ok : OkD D
  size : D.size = 8
  cnt : D.count ≤ 5000 * (i : Int)
  pl : Blk w' gp 123 (plL b p)
  half : p.half = 4
  alone : Alone D.lasts p
  num : p.number ≤ (i : Int)
  side : (p.side : Int) = p.number % 2
  d3 : Blk w' g3 31 [.pointer (some ⟨b, 0, none⟩)]
  was : Blk w' g7 50 [.string (bs (halfL D.lasts 4 0)), .string (bs (halfL D.lasts 4 1))]
  fr : Fr No w w'
theorem HaI.no {w w' w1 : World} {S : Nat → Prop} {b m gp g3 g7 i : Nat} {D : DiskS} {p : PlateS} (h : HaI w w' S b m gp g3 g7 i D p) (f : Fr No w' w1) : HaI w w1 S b m gp g3 g7 (i + 1) D p :=
  ⟨h.disk.no f, h.ok, h.size, by have := h.cnt; omega, h.pl.no f, h.half, h.alone, by have := h.num; omega, h.side, h.d3.no f, h.was.no f, h.fr.no f⟩

set_option maxHeartbeats 8000000 in
set_option maxRecDepth 100000 in
theorem ha_loop (w : World) (S : Nat → Prop) (A : Option Addr) (N c b m gp g3 g7 : Nat) (l : List B) (hN : N = l.length) (hN3 : N ≤ 30) (hX : Txts w A l) (hs : ∀ (i : Nat) (x : B), l[i]? = some x → x.length ≤ 5000) (hP : HaP w S gp g3 g7) (W : World) (D0 : DiskS) (h0 : HaI w W S b m gp g3 g7 0 D0 ⟨4, 0, 0, []⟩) (u : Nat → Value) (Q : Exit → Act → World → Prop)
    (hQ : ∀ (u : Nat → Value) D p ws, HaI w ws S b m gp g3 g7 N D p → Q .normal { tmps := List.toArray (.slice A N c :: u 1 :: u 2 :: .pointer (some ⟨g3, 0, none⟩) :: u 4 :: .pointer (some ⟨gp, 0, none⟩) :: u 6 :: .pointer (some ⟨g7, 0, none⟩) :: .func (.func RdN) #[] #[.pointer (some ⟨g3, 0, none⟩)] :: u 9 :: u 10 :: u 11 :: u 12 :: u 13 :: u 14 :: u 15 :: u 16 :: u 17 :: u 18 :: u 19 :: u 20 :: u 21 :: u 22 :: u 23 :: u 24 :: u 25 :: u 26 :: u 27 :: u 28 :: u 29 :: u 30 :: u 31 :: u 32 :: u 33 :: u 34 :: u 35 :: u 36 :: u 37 :: u 38 :: u 39 :: u 40 :: u 41 :: u 42 :: u 43 :: u 44 :: u 45 :: u 46 :: u 47 :: u 48 :: u 49 :: u 50 :: u 51 :: u 52 :: u 53 :: u 54 :: u 55 :: u 56 :: u 57 :: u 58 :: u 59 :: u 60 :: u 61 :: u 62 :: u 63 :: u 64 :: u 65 :: u 66 :: u 67 :: u 68 :: u 69 :: u 70 :: u 71 :: u 72 :: u 73 :: u 74 :: u 75 :: u 76 :: u 77 :: u 78 :: u 79 :: u 80 :: u 81 :: u 82 :: u 83 :: u 84 :: u 85 :: u 86 :: u 87 :: u 88 :: u 89 :: u 90 :: u 91 :: u 92 :: u 93 :: u 94 :: u 95 :: u 96 :: u 97 :: u 98 :: u 99 :: u 100 :: u 101 :: u 102 :: []), defers := [] } ws) :
    Code.wp Try.prog (sub [1, 1, 1, 1, 1, 1, 1, 1, 1, 1, 1, 0, 1] bodyHa) Q { tmps := List.toArray (.slice A N c :: u 1 :: u 2 :: .pointer (some ⟨g3, 0, none⟩) :: u 4 :: .pointer (some ⟨gp, 0, none⟩) :: u 6 :: .pointer (some ⟨g7, 0, none⟩) :: .func (.func RdN) #[] #[.pointer (some ⟨g3, 0, none⟩)] :: .int .i64 0 :: .int .i64 0 :: u 11 :: u 12 :: u 13 :: u 14 :: u 15 :: u 16 :: u 17 :: u 18 :: u 19 :: u 20 :: u 21 :: u 22 :: u 23 :: u 24 :: u 25 :: u 26 :: u 27 :: u 28 :: u 29 :: u 30 :: u 31 :: u 32 :: u 33 :: u 34 :: u 35 :: u 36 :: u 37 :: u 38 :: u 39 :: u 40 :: u 41 :: u 42 :: u 43 :: u 44 :: u 45 :: u 46 :: u 47 :: u 48 :: u 49 :: u 50 :: u 51 :: u 52 :: u 53 :: u 54 :: u 55 :: u 56 :: u 57 :: u 58 :: u 59 :: u 60 :: u 61 :: u 62 :: u 63 :: u 64 :: u 65 :: u 66 :: u 67 :: u 68 :: u 69 :: u 70 :: u 71 :: u 72 :: u 73 :: u 74 :: u 75 :: u 76 :: u 77 :: u 78 :: u 79 :: u 80 :: u 81 :: u 82 :: u 83 :: u 84 :: u 85 :: u 86 :: u 87 :: u 88 :: u 89 :: u 90 :: u 91 :: u 92 :: u 93 :: u 94 :: u 95 :: u 96 :: u 97 :: u 98 :: u 99 :: u 100 :: u 101 :: u 102 :: []), defers := [] } W := by
  conv => arg 2; whnf
  have HQ := Kp.mk hQ
  have HX := Kp.mk hX
  have HS := Kp.mk hs
  have HN0 := Kp.mk hN
  have HP := Kp.mk hP
  clear hQ hX hs hN hP
  refine wp_block ?_
  refine wp_loop_ghost_k (fun n a' w' => ∃ (i : Nat) (D : DiskS) (ps : Nat) (pn : Int) (pt : B) (u : Nat → Value), (n + i = N ∧ HaI w w' S b m gp g3 g7 i D ⟨4, ps, pn, pt⟩) ∧ a' = { tmps := List.toArray (.slice A N c :: u 1 :: u 2 :: .pointer (some ⟨g3, 0, none⟩) :: u 4 :: .pointer (some ⟨gp, 0, none⟩) :: u 6 :: .pointer (some ⟨g7, 0, none⟩) :: .func (.func RdN) #[] #[.pointer (some ⟨g3, 0, none⟩)] :: .int .i64 pn :: .int .i64 (i : Int) :: u 11 :: u 12 :: u 13 :: u 14 :: u 15 :: u 16 :: u 17 :: u 18 :: u 19 :: u 20 :: u 21 :: u 22 :: u 23 :: u 24 :: u 25 :: u 26 :: u 27 :: u 28 :: u 29 :: u 30 :: u 31 :: u 32 :: u 33 :: u 34 :: u 35 :: u 36 :: u 37 :: u 38 :: u 39 :: u 40 :: u 41 :: u 42 :: u 43 :: u 44 :: u 45 :: u 46 :: u 47 :: u 48 :: u 49 :: u 50 :: u 51 :: u 52 :: u 53 :: u 54 :: u 55 :: u 56 :: u 57 :: u 58 :: u 59 :: u 60 :: u 61 :: u 62 :: u 63 :: u 64 :: u 65 :: u 66 :: u 67 :: u 68 :: u 69 :: u 70 :: u 71 :: u 72 :: u 73 :: u 74 :: u 75 :: u 76 :: u 77 :: u 78 :: u 79 :: u 80 :: u 81 :: u 82 :: u 83 :: u 84 :: u 85 :: u 86 :: u 87 :: u 88 :: u 89 :: u 90 :: u 91 :: u 92 :: u 93 :: u 94 :: u 95 :: u 96 :: u 97 :: u 98 :: u 99 :: u 100 :: u 101 :: u 102 :: []), defers := [] }) N
    ⟨0, D0, 0, 0, [], u, ⟨rfl, h0⟩, rfl⟩ ?_
  clear h0
  rintro n a' w' ⟨i, D, ps, pn, pt, u, ⟨hn, hI⟩, rfl⟩ J K hJ hK
  have HJ := Kp.mk hJ
  have HK := Kp.mk hK
  have HN := Kp.mk hn
  have hnum : pn ≤ (i : Int) := hI.num
  have hpos : 0 ≤ pn := hI.alone.pos
  have hcnt := hI.cnt
  have hsd : ps ≤ 1 := hI.alone.side
  have hsm : (ps : Int) = pn % 2 := hI.side
  have HI := Kp.mk hI
  clear hJ hK hn hI
  by_cases hlt : i < N
  · have hltz : (i : Int) < (N : Int) := by omega
    have hi30 : i < 30 := by omega
    obtain ⟨x, hx⟩ : ∃ x, l[i]? = some x := ⟨_, List.getElem?_eq_getElem (by rw [← HN0.out]; exact hlt)⟩
    obtain ⟨bA, oA, rfl, hbA, hcc⟩ := HX.out.out (by rw [← HN0.out]; omega)
    have l1 := Fr.cell (hcc i x hx) HI.out.fr (fun h => h)
    have hxl := HS.out i x hx
    have hxs : (bs x).size = x.length := bs_size x
    clear hcc hx hbA
    rcases (by omega : ps = 0 ∨ ps = 1) with h | h
    · subst h
      have hside : pn % 2 = 0 := by omega
      have hm : (pn + 1) % 2 = 1 := by omega
      by_cases hr : x.length + 40 ≤ 4 * 32
      · have CW1 := Kp.mk (write_well (s := x) (p := ⟨4, 0, pn, pt⟩) HI.out.disk HI.out.ok (by omega) (by show D.size = 2 * 4; exact HI.out.size) HI.out.pl HP.out.sp (by show 0 ≤ 1; decide) hpos (by show pn < 2147483647; omega) (by show 4 ≤ 4096; decide) hr)
        have oth := half_wrote_other (f := D.lasts) (p := ⟨4, 0, pn, pt⟩) (by show 0 ≤ 1; decide) x hr
        have OTH : Kp (halfL (wellD D ⟨4, 0, pn, pt⟩ x).lasts 4 0 = halfL D.lasts 4 0) := ⟨oth⟩
        have AL : Kp (Alone (wellD D ⟨4, 0, pn, pt⟩ x).lasts (wroteP ⟨4, 0, pn, pt⟩ x)) := ⟨wrote_alone HI.out.alone.toTells x hr (by omega) (by show pn < 2147483647; omega)⟩
        have CN : Kp ((wellD D ⟨4, 0, pn, pt⟩ x).count ≤ 5000 * ((i + 1 : Nat) : Int)) := ⟨by have := wellD_count (D := D) (p := ⟨4, 0, pn, pt⟩) x hr; have h4 : ((⟨4, 0, pn, pt⟩ : PlateS).half : Int) = 4 := rfl; omega⟩
        have OK1 := Kp.mk (wellD_ok HI.out.ok ⟨4, 0, pn, pt⟩ x)
        have hpn : pn + 1 ≤ ((i + 1 : Nat) : Int) := by omega
        have HPN := Kp.mk hpn
        have HSD := Kp.mk hside
        clear oth hr hpn hside hsm hsd
        go_wp2_with (go_at_call 26; (with_reducible refine CW1.out.mono ?_); rintro e w1 ⟨rfl, d1, q1, f1⟩)
        rw [hm]
        have ms : ∀ {g : Nat}, ¬ S g → g ≠ gp → ¬ More S gp g := fun a b h => h.elim a b
        have W7 := Kp.mk (HI.out.was.keep f1 (ms HP.out.s7 HP.out.p7))
        have D3 := Kp.mk (HI.out.d3.keep f1 (ms HP.out.s3 HP.out.p3))
        have F1 := Kp.mk (HI.out.fr.trans f1 (fun k hk => hk.elim (fun h => .inr (HP.out.up k h)) (fun h => .inr (by rw [h]; exact HP.out.p))))
        have DD := Kp.mk d1
        have PP := Kp.mk q1
        clear d1 q1 f1 hm ms
        have CR : Kp (∀ n, Calls Try.prog 31 #[.int .i64 0, .pointer (some ⟨g3, 0, none⟩)] (w1.drewN n) fun e w'' => e = .returned (.string (bs (halfL D.lasts 4 0))) ∧ w'' = w1.drewN n) := ⟨fun n => by
          have h := half_any (DD.out.no ((Fr.refl No w1).drewN n)) OK1.out HI.out.size (D3.out.no ((Fr.refl No w1).drewN n)) 0 (by decide)
          rw [OTH.out] at h
          exact h⟩
        have CWT : Kp (∀ n, Calls Try.prog 30 #[.pointer (some ⟨b, 0, none⟩)] (w1.drewN n) fun e w'' => e = .returned (.int .i64 0) ∧ w'' = w1.drewN n) := ⟨fun n => by
          obtain ⟨v, hv, _⟩ := (DD.out.no ((Fr.refl No w1).drewN n)).ex
          have h := waiting_any hv
          rw [OK1.out.quiet] at h
          exact h⟩
        have CNN : Kp (∀ n, Calls Try.prog 23 #[.pointer (some ⟨gp, 0, none⟩)] (w1.drewN n) fun e w'' => e = .returned (.int .i64 (pn + 1)) ∧ w'' = w1.drewN n) := ⟨fun n => pnumber_any (PP.out.no ((Fr.refl No w1).drewN n))⟩
        have k3 := D3.out.at_ 0 rfl
        have k7 := W7.out.at_ 0 rfl
        go_quiet ((first | (go_at_call 31; exact Calls.quiet_of_same (CR.out _)) | (go_at_call 30; exact Calls.quiet_of_same (CWT.out _)) | (go_at_call 23; exact Calls.quiet_of_same (CNN.out _))))
        rename_i nq
        have CR2 : Kp (Calls Try.prog 31 #[.int .i64 1, .pointer (some ⟨g3, 0, none⟩)] (w1.drewN nq) fun e w'' => e = .returned (.string (bs (halfL (wellD D ⟨4, 0, pn, pt⟩ x).lasts 4 1))) ∧ w'' = w1.drewN nq) := ⟨half_any (DD.out.no ((Fr.refl No w1).drewN nq)) OK1.out HI.out.size (D3.out.no ((Fr.refl No w1).drewN nq)) 1 (by decide)⟩
        clear k3 k7
        go_wp2_with (first
          | (go_at_call 31; (with_reducible refine CR2.out.mono ?_); rintro e w2 ⟨rfl, hww⟩; subst hww)
          | ((with_reducible refine gate_store (t := 9) (p := 86) rfl ?_); refine ev_store rfl 9 _ _ rfl g7 1 (.string (bs (halfL (wellD D ⟨4, 0, pn, pt⟩ x).lasts 4 1))) rfl rfl rfl 50 _ (W7.out.no ((Fr.refl No w1).drewN nq)) (by show 1 < 2; decide) sizePtr ?_; intro w3 f3 b3))
        refine HK.out _ _ (Handed.intro (n - 1) (by have := HN.out; omega) (HJ.out _ _ _ ⟨i + 1, wellD D ⟨4, 0, pn, pt⟩ x, 1, pn + 1, x, ex_u ⟨by have := HN.out; omega, ?_⟩ rfl⟩))
        have fq := (Fr.refl No w1).drewN nq
        refine ⟨(DD.out.no fq).one f3 HP.out.s7, OK1.out, HI.out.size, CN.out, (PP.out.no fq).one f3 (Ne.symm HP.out.p7), rfl, AL.out, HPN.out, ?_, (D3.out.no fq).one f3 HP.out.e37, ?_, (F1.out.no fq).one f3 (.inr HP.out.n7)⟩
        · show ((1 - 0 : Nat) : Int) = (pn + 1) % 2
          have := HSD.out
          omega
        · have h := OTH.out
          rw [← h] at b3
          exact b3
      · have CW1 := Kp.mk (write_long (s := x) HI.out.pl (by show 4 ≤ 4096; decide) (by show ((4 : Nat) : Int) * 32 - 40 < _; omega))
        clear hr hm hside hsm hsd
        go_wp2_with (go_at_call 26; (with_reducible refine CW1.out.mono ?_); rintro e w1 ⟨rfl, f1⟩)
        exact HK.out _ _ (Handed.intro (n - 1) (by have := HN.out; omega) (HJ.out _ _ _ ⟨i + 1, D, 0, pn, pt, ex_u ⟨by have := HN.out; omega, HI.out.no f1⟩ rfl⟩))
    · subst h
      have hside : pn % 2 = 1 := by omega
      have hm : (pn + 1) % 2 = 0 := by omega
      by_cases hr : x.length + 40 ≤ 4 * 32
      · have CW1 := Kp.mk (write_well (s := x) (p := ⟨4, 1, pn, pt⟩) HI.out.disk HI.out.ok (by omega) (by show D.size = 2 * 4; exact HI.out.size) HI.out.pl HP.out.sp (by show 1 ≤ 1; decide) hpos (by show pn < 2147483647; omega) (by show 4 ≤ 4096; decide) hr)
        have oth := half_wrote_other (f := D.lasts) (p := ⟨4, 1, pn, pt⟩) (by show 1 ≤ 1; decide) x hr
        have OTH : Kp (halfL (wellD D ⟨4, 1, pn, pt⟩ x).lasts 4 1 = halfL D.lasts 4 1) := ⟨oth⟩
        have AL : Kp (Alone (wellD D ⟨4, 1, pn, pt⟩ x).lasts (wroteP ⟨4, 1, pn, pt⟩ x)) := ⟨wrote_alone HI.out.alone.toTells x hr (by omega) (by show pn < 2147483647; omega)⟩
        have CN : Kp ((wellD D ⟨4, 1, pn, pt⟩ x).count ≤ 5000 * ((i + 1 : Nat) : Int)) := ⟨by have := wellD_count (D := D) (p := ⟨4, 1, pn, pt⟩) x hr; have h4 : ((⟨4, 1, pn, pt⟩ : PlateS).half : Int) = 4 := rfl; omega⟩
        have OK1 := Kp.mk (wellD_ok HI.out.ok ⟨4, 1, pn, pt⟩ x)
        have hpn : pn + 1 ≤ ((i + 1 : Nat) : Int) := by omega
        have HPN := Kp.mk hpn
        have HSD := Kp.mk hside
        clear oth hr hpn hside hsm hsd
        go_wp2_with (go_at_call 26; (with_reducible refine CW1.out.mono ?_); rintro e w1 ⟨rfl, d1, q1, f1⟩)
        rw [hm]
        have ms : ∀ {g : Nat}, ¬ S g → g ≠ gp → ¬ More S gp g := fun a b h => h.elim a b
        have W7 := Kp.mk (HI.out.was.keep f1 (ms HP.out.s7 HP.out.p7))
        have D3 := Kp.mk (HI.out.d3.keep f1 (ms HP.out.s3 HP.out.p3))
        have F1 := Kp.mk (HI.out.fr.trans f1 (fun k hk => hk.elim (fun h => .inr (HP.out.up k h)) (fun h => .inr (by rw [h]; exact HP.out.p))))
        have DD := Kp.mk d1
        have PP := Kp.mk q1
        clear d1 q1 f1 hm ms
        have CR : Kp (∀ n, Calls Try.prog 31 #[.int .i64 1, .pointer (some ⟨g3, 0, none⟩)] (w1.drewN n) fun e w'' => e = .returned (.string (bs (halfL D.lasts 4 1))) ∧ w'' = w1.drewN n) := ⟨fun n => by
          have h := half_any (DD.out.no ((Fr.refl No w1).drewN n)) OK1.out HI.out.size (D3.out.no ((Fr.refl No w1).drewN n)) 1 (by decide)
          rw [OTH.out] at h
          exact h⟩
        have CWT : Kp (∀ n, Calls Try.prog 30 #[.pointer (some ⟨b, 0, none⟩)] (w1.drewN n) fun e w'' => e = .returned (.int .i64 0) ∧ w'' = w1.drewN n) := ⟨fun n => by
          obtain ⟨v, hv, _⟩ := (DD.out.no ((Fr.refl No w1).drewN n)).ex
          have h := waiting_any hv
          rw [OK1.out.quiet] at h
          exact h⟩
        have CNN : Kp (∀ n, Calls Try.prog 23 #[.pointer (some ⟨gp, 0, none⟩)] (w1.drewN n) fun e w'' => e = .returned (.int .i64 (pn + 1)) ∧ w'' = w1.drewN n) := ⟨fun n => pnumber_any (PP.out.no ((Fr.refl No w1).drewN n))⟩
        have k3 := D3.out.at_ 0 rfl
        have k7 := W7.out.at_ 1 rfl
        go_quiet ((first | (go_at_call 31; exact Calls.quiet_of_same (CR.out _)) | (go_at_call 30; exact Calls.quiet_of_same (CWT.out _)) | (go_at_call 23; exact Calls.quiet_of_same (CNN.out _))))
        rename_i nq
        have CR2 : Kp (Calls Try.prog 31 #[.int .i64 0, .pointer (some ⟨g3, 0, none⟩)] (w1.drewN nq) fun e w'' => e = .returned (.string (bs (halfL (wellD D ⟨4, 1, pn, pt⟩ x).lasts 4 0))) ∧ w'' = w1.drewN nq) := ⟨half_any (DD.out.no ((Fr.refl No w1).drewN nq)) OK1.out HI.out.size (D3.out.no ((Fr.refl No w1).drewN nq)) 0 (by decide)⟩
        clear k3 k7
        go_wp2_with (first
          | (go_at_call 31; (with_reducible refine CR2.out.mono ?_); rintro e w2 ⟨rfl, hww⟩; subst hww)
          | ((with_reducible refine gate_store (t := 9) (p := 86) rfl ?_); refine ev_store rfl 9 _ _ rfl g7 0 (.string (bs (halfL (wellD D ⟨4, 1, pn, pt⟩ x).lasts 4 0))) rfl rfl rfl 50 _ (W7.out.no ((Fr.refl No w1).drewN nq)) (by show 0 < 2; decide) sizePtr ?_; intro w3 f3 b3))
        refine HK.out _ _ (Handed.intro (n - 1) (by have := HN.out; omega) (HJ.out _ _ _ ⟨i + 1, wellD D ⟨4, 1, pn, pt⟩ x, 0, pn + 1, x, ex_u ⟨by have := HN.out; omega, ?_⟩ rfl⟩))
        have fq := (Fr.refl No w1).drewN nq
        refine ⟨(DD.out.no fq).one f3 HP.out.s7, OK1.out, HI.out.size, CN.out, (PP.out.no fq).one f3 (Ne.symm HP.out.p7), rfl, AL.out, HPN.out, ?_, (D3.out.no fq).one f3 HP.out.e37, ?_, (F1.out.no fq).one f3 (.inr HP.out.n7)⟩
        · show ((1 - 1 : Nat) : Int) = (pn + 1) % 2
          have := HSD.out
          omega
        · have h := OTH.out
          rw [← h] at b3
          exact b3
      · have CW1 := Kp.mk (write_long (s := x) HI.out.pl (by show 4 ≤ 4096; decide) (by show ((4 : Nat) : Int) * 32 - 40 < _; omega))
        clear hr hm hside hsm hsd
        go_wp2_with (go_at_call 26; (with_reducible refine CW1.out.mono ?_); rintro e w1 ⟨rfl, f1⟩)
        exact HK.out _ _ (Handed.intro (n - 1) (by have := HN.out; omega) (HJ.out _ _ _ ⟨i + 1, D, 1, pn, pt, ex_u ⟨by have := HN.out; omega, HI.out.no f1⟩ rfl⟩))
  · obtain rfl : i = N := by have := HN.out; omega
    have hltz : ¬ (i : Int) < (i : Int) := by omega
    go_wp2_with fail
    exact K_u (fun u => HQ.out u _ _ _ HI.out) rfl
end Go.Proofs.Ytaohfmmapammcaa.Pl

/- The law PlateHalves, whole. Conditions: sizes are bounded, as written out. -/
set_option linter.unusedSimpArgs false
set_option linter.unusedVariables false
namespace Go.Proofs.Ytaohfmmapammcaa.Pl
open Go Go.RowKit Go.Proofs.YtaohfmmapammcaaW.PrintWords Go.Proofs.YtaohfmmapammcaaW.PrintLast Go.Proofs.Ytaohfmmapammcaa.Sha Go.Proofs.Ytaohfmmapammcaa.Dig Go.Proofs.Ytaohfmmapammcaa.Ev Go.Proofs.Ytaohfmmapammcaa.Reg Go.Proofs.Ytaohfmmapammcaa.Ch

/-- The power gone and come again: what lasts is as it was. -/
theorem crash_start {D : DiskS} (h : OkD D) : OkD (startD (crashD D)) ∧ (startD (crashD D)).lasts = D.lasts ∧ (startD (crashD D)).size = D.size := by
  have e : startD (crashD D) = { D with wait := [], cutAt := 0, down := false } := by
    unfold crashD startD
    rw [if_neg (by rw [h.up]; decide)]
  rw [e]
  exact ⟨⟨rfl, rfl, rfl, h.cnt, h.full⟩, rfl, rfl⟩
set_option maxHeartbeats 8000000 in
set_option maxRecDepth 100000 in
theorem halves_any (l : List B) (A : Option Addr) (c : Nat) (w : World) (hX : Txts w A l) (hs : ∀ (i : Nat) (x : B), l[i]? = some x → x.length ≤ 1099511627776000) (hl : l.length ≤ 1099511627776000) :
    Calls Try.prog 6 #[.slice A l.length c] w fun e w' => e = .returned (.bool true) ∧ Fr No w w' := by
  have CA : Kp (∀ W, Calls Try.prog 18 #[] W fun e w' => e = .returned (.bool true) ∧ Fr No W w') := ⟨awake_any⟩
  have CF : Kp (∀ W, Fr No w W → Calls Try.prog 27 #[.slice A l.length c] W fun e w' => e = .returned (.bool (fewB l)) ∧ w' = W) := ⟨fun W f => few_any l A c W (hX.no f) hs hl⟩
  cases hf : fewB l with
  | false =>
    rw [hf] at CF
    clear hX hs hf
    go_enter Try.func6, Try.ntmps6
    go_wp2_with (first
      | (go_at_call 18; refine (CA.out _).mono ?_; rintro e w1 ⟨rfl, f1⟩)
      | (go_at_call 27; refine (CF.out _ f1).mono ?_; rintro e w2 ⟨rfl, hww⟩; subst hww))
    go_ret
    exact ⟨rfl, f1⟩
  | true =>
    rw [hf] at CF
    obtain ⟨hN30, hs5⟩ := few_true hf
    have HX := Kp.mk hX
    have HS5 := Kp.mk hs5
    obtain ⟨N, hN⟩ : ∃ N, N = l.length := ⟨_, rfl⟩
    rw [← hN] at CF hN30 ⊢
    have HN := Kp.mk hN
    have CN := Kp.mk (fun W => new_any 8 (by decide) (by decide) W)
    have CO : Kp (∀ W S b m, Dk W S b m (newD 8) → Calls Try.prog 22 #[.pointer (some ⟨b, 0, none⟩)] W fun e w' => ∃ gp, e = .returned (.tuple #[.pointer (some ⟨gp, 0, none⟩), .int .i64 0]) ∧ Blk w' gp 123 (plL b ⟨4, 0, 0, []⟩) ∧ W.heap.size ≤ gp ∧ Dk w' (Less S gp) b m (newD 8) ∧ Fr No W w') := ⟨fun W S b m h => by
      have h := open_any h (newD_ok 8) 4 rfl (by decide) (by decide)
      rw [show (newD 8).lasts = fun _ => none from rfl, open_fresh 4 (by decide)] at h
      exact h⟩
    have CR0 : Kp (∀ W S b m g3, Dk W S b m (newD 8) → Blk W g3 31 [.pointer (some ⟨b, 0, none⟩)] → Calls Try.prog 31 #[.int .i64 0, .pointer (some ⟨g3, 0, none⟩)] W fun e w'' => e = .returned (.string (bs (halfL (newD 8).lasts 4 0))) ∧ w'' = W) := ⟨fun W S b m g3 h1 h2 => half_any h1 (newD_ok 8) rfl h2 0 (by decide)⟩
    have CR1 : Kp (∀ W S b m g3, Dk W S b m (newD 8) → Blk W g3 31 [.pointer (some ⟨b, 0, none⟩)] → Calls Try.prog 31 #[.int .i64 1, .pointer (some ⟨g3, 0, none⟩)] W fun e w'' => e = .returned (.string (bs (halfL (newD 8).lasts 4 1))) ∧ w'' = W) := ⟨fun W S b m g3 h1 h2 => half_any h1 (newD_ok 8) rfl h2 1 (by decide)⟩
    clear hX hs hf hs5 hl hN
    obtain ⟨H0, hH0⟩ : ∃ H, H = halfL (newD 8).lasts 4 0 := ⟨_, rfl⟩
    obtain ⟨H1, hH1⟩ : ∃ H, H = halfL (newD 8).lasts 4 1 := ⟨_, rfl⟩
    rw [← hH0] at CR0
    rw [← hH1] at CR1
    have HH0 := Kp.mk hH0
    have HH1 := Kp.mk hH1
    clear hH0 hH1
    go_enter Try.func6, Try.ntmps6
    go_upto_block 0 with (first
      | (go_at_call 18; refine (CA.out _).mono ?_; rintro e w1 ⟨rfl, f1⟩)
      | (go_at_call 27; refine (CF.out _ f1).mono ?_; rintro e w2 ⟨rfl, hww⟩; subst hww)
      | (go_at_call 19; refine (CN.out _).mono ?_; rintro e w3 ⟨b, m, rfl, d3, hb, hm, f3⟩; have D3 : Kp (Dk w3 (fun k => w2.heap.size ≤ k) b m (newD 8)) := ⟨⟨⟨.slice none 0 0, d3, fun k hk => by simp [Value.ownBlock] at hk⟩, hb, hm, fun k hk => Nat.le_trans f3.size hk⟩⟩; clear d3)
      | ((with_reducible refine gate_dst (N := 3) rfl ?_); refine ev_alloc rfl 31 rfl _ [.pointer none] zeroDiskP rfl ?_; intro g3 w4 hg3 f4 b4)
      | ((with_reducible refine gate_store (t := 31) (p := 3) rfl ?_); refine ev_store rfl 31 _ _ rfl g3 0 (.pointer (some ⟨b, 0, none⟩)) rfl rfl rfl 31 _ b4 (by show 0 < 1; decide) sizeDiskP ?_; intro w5 f5 b5; have z4 := b4.lt; have D5 := Kp.mk ((D3.out.less_new f4 hg3 z4).one f5 (fun h => h.2 rfl)); have c3 := b5.at_ 0 rfl)
      | (go_at_call 22; refine (CO.out _ _ _ _ D5.out).mono ?_; rintro e w6 ⟨gp, rfl, P6, hgp, D6, f6⟩; have B6 := b5.no f6)
      | ((with_reducible refine gate_dst (N := 7) rfl ?_); refine ev_alloc rfl 50 rfl _ [.string ⟨#[]⟩, .string ⟨#[]⟩] zeroArr2 rfl ?_; intro g7 w7 hg7 f7 b7; have z7 := b7.lt; have D7 := Kp.mk (D6.less_new f7 hg7 z7); have B7 := Kp.mk (B6.no f7); have P7 := Kp.mk (P6.no f7))
      | (go_at_call 31; (with_reducible refine (CR0.out _ _ _ _ _ D7.out B7.out).mono ?_); rintro e w8 ⟨rfl, hww⟩; subst hww)
      | (go_at_call 31; (with_reducible refine (CR1.out _ _ _ _ _ D7.out B7.out).mono ?_); rintro e w8 ⟨rfl, hww⟩; subst hww)
      | ((with_reducible refine gate_store (t := 9) (p := 43) rfl ?_); refine ev_store rfl 9 _ _ rfl g7 0 (.string (bs H0)) rfl rfl rfl 50 _ b7 (by show 0 < 2; decide) sizePtr ?_; intro w9 f9 b9)
      | ((with_reducible refine gate_store (t := 9) (p := 44) rfl ?_); refine ev_store rfl 9 _ _ rfl g7 1 (.string (bs H1)) rfl rfl rfl 50 _ b9 (by show 1 < 2; decide) sizePtr ?_; intro w10 f10 b10))
    have z1 := f1.size
    have z3 := f3.size
    have z45 := f5.size
    have z56 := f6.size
    have zgp := P6.lt
    have HP : HaP w (Less (Less (Less (fun k => w2.heap.size ≤ k) g3) gp) g7) gp g3 g7 :=
      ⟨fun k h => Nat.le_trans z1 h.1.1.1, by omega, by omega, by omega, fun h => h.1.2 rfl, fun h => h.1.1.2 rfl, fun h => h.2 rfl, by omega, by omega, by omega⟩
    have n7 : ¬ Less (Less (Less (fun k => w2.heap.size ≤ k) g3) gp) g7 g7 := fun h => h.2 rfl
    have hI : HaI w w10 (Less (Less (Less (fun k => w2.heap.size ≤ k) g3) gp) g7) b m gp g3 g7 0 (newD 8) ⟨4, 0, 0, []⟩ :=
      ⟨(D7.out.one f9 n7).one f10 n7, newD_ok 8, rfl, by show (0 : Int) ≤ 5000 * ((0 : Nat) : Int); decide, (P7.out.one f9 (Ne.symm HP.p7)).one f10 (Ne.symm HP.p7), rfl, fresh_alone 4 (by decide), by show (0 : Int) ≤ ((0 : Nat) : Int); decide, rfl, (B7.out.one f9 HP.e37).one f10 HP.e37, by rw [← HH0.out, ← HH1.out]; exact b10,
        ((((f1.no f3).no f4).one f5 (.inr HP.n3)).no (f6.no f7)).one (f9.one f10 (.inl rfl)) (.inr HP.n7)⟩
    have HPP := Kp.mk HP
    refine wp_u (fun u => ha_loop w (Less (Less (Less (fun k => w2.heap.size ≤ k) g3) gp) g7) A N c b m gp g3 g7 l HN.out hN30 HX.out HS5.out HP w10 (newD 8) hI u _ ?_) rfl
    clear hI HP n7 b10 b9 f9 f10 D7 B7 P7 b7 f7 f6 B6 P6 D6 b5 c3 f5 b4 f4 D5 D3 f3 f1
    intro u D p ws hI
    have HI := Kp.mk hI
    have c0 := hI.d3.at_ 0 rfl
    have hcs := crash_start hI.ok
    have HCS := Kp.mk hcs
    clear hI hcs
    go_wp2_with (first
      | (go_at_call 32; refine (crash_any HI.out.disk (by rw [HI.out.ok.quiet]; decide)).mono ?_; rintro e w11 ⟨rfl, d11, f11⟩; have b11 := HI.out.d3.keep f11 HPP.out.s3; have c11 := b11.at_ 0 rfl; have D11 := Kp.mk d11; clear d11)
      | (go_at_call 33; refine (start_any D11.out).mono ?_; rintro e w12 ⟨rfl, d12, f12⟩; have b12 := b11.keep f12 HPP.out.s3; have c12 := b12.at_ 0 rfl; have W12 := Kp.mk ((HI.out.was.keep f11 HPP.out.s7).keep f12 HPP.out.s7); have D12 := Kp.mk d12; clear d12))
    obtain ⟨hk1, hk2, hk3⟩ := HCS.out
    have F12 : Fr No w w12 := (HI.out.fr.trans f11 (fun k h => .inr (HPP.out.up k h))).trans f12 (fun k h => .inr (HPP.out.up k h))
    have CQ0 : Kp (∀ n, Calls Try.prog 31 #[.int .i64 0, .pointer (some ⟨g3, 0, none⟩)] (w12.drewN n) fun e w'' => e = .returned (.string (bs (halfL D.lasts 4 0))) ∧ w'' = w12.drewN n) := ⟨fun n => by
      have h := half_any (D12.out.no ((Fr.refl No w12).drewN n)) hk1 (hk3.trans HI.out.size) (b12.no ((Fr.refl No w12).drewN n)) 0 (by decide)
      rw [hk2] at h
      exact h⟩
    have CQ1 : Kp (∀ n, Calls Try.prog 31 #[.int .i64 1, .pointer (some ⟨g3, 0, none⟩)] (w12.drewN n) fun e w'' => e = .returned (.string (bs (halfL D.lasts 4 1))) ∧ w'' = w12.drewN n) := ⟨fun n => by
      have h := half_any (D12.out.no ((Fr.refl No w12).drewN n)) hk1 (hk3.trans HI.out.size) (b12.no ((Fr.refl No w12).drewN n)) 1 (by decide)
      rw [hk2] at h
      exact h⟩
    have k0 := W12.out.at_ 0 rfl
    have k1 := W12.out.at_ 1 rfl
    generalize halfL D.lasts 4 0 = X0 at CQ0 k0
    generalize halfL D.lasts 4 1 = X1 at CQ1 k1
    clear c0 c11 hk1 hk2 hk3 b11 b12 f11 f12
    go_quiet ((first | (go_at_call 31; (with_reducible exact Calls.quiet_of_same (CQ0.out _))) | (go_at_call 31; (with_reducible exact Calls.quiet_of_same (CQ1.out _)))))
    rename_i nq
    go_wp2_with fail
    go_ret
    exact ⟨rfl, F12.drewN nq⟩
end Go.Proofs.Ytaohfmmapammcaa.Pl

/- The row PlateHalves. No conditions beside the statement's own. -/
set_option linter.unusedSimpArgs false
set_option linter.unusedVariables false
namespace Go.Proofs.Ytaohfmmapammcaa
open Go.ChangeShapes Go.WideShapes Go.ChangeAt Go.RowKit

set_option maxRecDepth 100000 in
theorem plateHalves_lifted (os : Os) (started : os.Started) (H : Type) (enc : TypeId × Value → H) :
    ReturnsInHanded {} Try.checked os 6 .any (Rows.plateHalvesSpec.pre6 enc Try.prog Try.f6 Rows.plateHalvesRow.domain false) (Rows.plateHalvesSpec.post enc Try.prog Try.f6 false true false false) := by
  refine returnsInHanded_of_change_sized (C := Try.checked) Try.own started (by kernel_rfl) Try.func6
    (ChangeSpec.witness6 (enc := enc) (C := Try.checked) false ⟨#[], #[.slice none 0 0], []⟩ 8 (by kernel_rfl) (by kernel_rfl) (by kernel_rfl) (by kernel_rfl)) ?_
  intro W base args ds gs before hval0 hW _ hsz0 _
  have hszz : (DataW.weightsEach Try.prog (Try.f6.params.toList ++ Rows.plateHalvesSpec.plain.varTypes Try.prog) (ds ++ gs)).all (· ≤ reachBytes) = true := hsz0
  clear hsz0
  have hval : ∀ (j : Nat) t v, Try.f6.params[j]? = some t → args[j]? = some v → Value.okWide Try.prog W .any base t v := hval0
  have hW' := hW
  obtain ⟨p, q, hA0, hV, rfl, _, _⟩ := hW
  have hA : DataW.TrodAll enc Try.prog W 0 (fun _ => true) true Try.f6.params.toList args.toList ds p := hA0
  rw [Try.params6] at hA hval hszz
  obtain ⟨v0, d0, rfl, rfl, h0⟩ := trodAll_one hA
  obtain ⟨rfl, rfl⟩ := trodVars_none hV
  obtain ⟨a1, len, cap, rfl⟩ := okWide_slice Try.underlying22 (hval 0 22 v0 rfl rfl)
  simp only [List.append_nil] at hW' hszz
  have hlt : ∀ x ∈ p, x.block < W.heap.size := fun x hx => by simpa using hW'.lt x (by simp [hx])
  have hargs : ∀ (W' : World), Below W.heap.size W W' → DataW.Trod enc Try.prog W' 0 (fun b => decide (b < W.heap.size)) true 22 (.slice a1 len cap) d0 p :=
    fun W' hn => Below.trod Try.laidOut (by kernel_rfl) (of_decide_eq_true (by kernel_rfl)) h0 hn hlt
  obtain ⟨l, hX, hll, hlen, hs⟩ := txts_of h0 hszz (j := 0) rfl rfl
  subst hll
  refine (Pl.halves_any l a1 cap W hX hs hlen).mono fun e W' ⟨he, hf⟩ => ?_
  subst he
  have hnx := hf.below
  refine ⟨_, rfl, _, _, _, [], p, [], hW', ?_, trodAll_mk1 (hargs _ hnx), rfl, hnx.frame _, fun h => by cases h⟩
  exact trodAll_mk1 (shut_bool Try.underlying4 true)

theorem plateHalves_holds : Rows.PlateHalvesSaid :=
  OpenClaim.holds_of_wide 6 Try.f6 rfl rfl rfl rfl rfl rfl rfl ⟨rfl, rfl, rfl, rfl, rfl⟩ rfl rfl rfl rfl rfl (by kernel_rfl) Try.func6 (by kernel_rfl)
    (of_decide_eq_true (by kernel_rfl)) (by unfold Func.isWrapper; first | (rw [if_pos (by decide +kernel)]; kernel_rfl) | (rw [if_neg (by decide +kernel)]; exact ⟨rfl, rfl⟩))
    (fun os started H enc _ => plateHalves_lifted os started H enc)
end Go.Proofs.Ytaohfmmapammcaa
