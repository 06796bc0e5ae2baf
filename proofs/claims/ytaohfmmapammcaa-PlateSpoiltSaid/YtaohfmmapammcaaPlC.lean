/- Texts joined by merge.py: PlOpen, PlPut, PlReg, PlLoop, PlEnd. -/
import Derived.Test.YtaohfmmapammcaaPlB
/- plate's Open. Conditions: sizes are bounded, as written out. -/
set_option linter.unusedSimpArgs false
set_option linter.unusedVariables false
namespace Go.Proofs.Ytaohfmmapammcaa.Pl
open Go Go.RowKit Go.Proofs.YtaohfmmapammcaaW.PrintWords Go.Proofs.YtaohfmmapammcaaW.PrintLast Go.Proofs.Ytaohfmmapammcaa.Sha Go.Proofs.Ytaohfmmapammcaa.Dig Go.Proofs.Ytaohfmmapammcaa.Ev Go.Proofs.Ytaohfmmapammcaa.Reg

def stepO (p : PlateS) (i : Nat) (r : Int × B) : PlateS := if p.number < r.1 then ⟨p.half, i, r.1, r.2⟩ else p
def stO (f : Int → Option B) (half : Nat) : Nat → PlateS
  | 0 => ⟨half, 0, 0, []⟩
  | i + 1 => stepO (stO f half i) i (readL (halfL f half i) half)
theorem stO_two (f : Int → Option B) (half : Nat) : stO f half 2 = openP f half := by
  show stepO (stepO ⟨half, 0, 0, []⟩ 0 (readL (halfL f half 0) half)) 1 (readL (halfL f half 1) half) = _
  unfold openP openL stepO
  dsimp only
  by_cases h : 0 < (readL (halfL f half 0) half).1
  · rw [if_pos h]
  · rw [if_neg h]
theorem stO_half (f : Int → Option B) (half : Nat) : ∀ i, (stO f half i).half = half
  | 0 => rfl
  | i + 1 => by
    unfold stO stepO
    split
    · exact stO_half f half i
    · exact stO_half f half i
theorem sizePtr : (Try.prog.info? 9).map (·.size) = some 1 := by kernel_rfl

set_option maxHeartbeats 2000000 in
set_option maxRecDepth 100000 in
theorem open_bad {w : World} {S : Nat → Prop} {b m : Nat} {D : DiskS} (hD : Dk w S b m D) (hz : D.size < 8 ∨ D.size % 2 ≠ 0) : Calls Try.prog 22 #[.pointer (some ⟨b, 0, none⟩)] w fun e w' => e = .returned (.tuple #[.pointer none, .int .i64 1]) ∧ w' = w := by
  obtain ⟨v, hv, _⟩ := hD.ex
  have CS := Kp.mk (size_any hv)
  clear hD hv
  obtain ⟨z, hzz⟩ : ∃ z, z = D.size := ⟨_, rfl⟩
  rw [← hzz] at CS hz
  clear hzz
  have z0 : (0 : Int) ≤ (z : Int) := by omega
  by_cases h8 : z < 8
  · have h8z : (z : Int) < 8 := by omega
    clear hz h8
    go_enter Try.func22, Try.ntmps22
    go_wp2_with (go_at_call 73; refine CS.out.mono ?_; rintro e w1 ⟨rfl, hww⟩; subst hww)
    go_ret2
    exact ⟨rfl, rfl⟩
  · have h8z : (8 : Int) ≤ (z : Int) := by omega
    have hm : (z : Int) % 2 = 1 := by omega
    clear hz h8
    go_enter Try.func22, Try.ntmps22
    go_wp2_with (go_at_call 73; refine CS.out.mono ?_; rintro e w1 ⟨rfl, hww⟩; subst hww)
    go_ret2
    exact ⟨rfl, rfl⟩

set_option maxHeartbeats 4000000 in
set_option maxRecDepth 100000 in
theorem open_any {w : World} {S : Nat → Prop} {b m : Nat} {D : DiskS} (hD : Dk w S b m D) (hok : OkD D) (half : Nat) (hsz : D.size = 2 * half) (h4 : 4 ≤ half) (hh : half ≤ 4096) :
    Calls Try.prog 22 #[.pointer (some ⟨b, 0, none⟩)] w fun e w' => ∃ gp, e = .returned (.tuple #[.pointer (some ⟨gp, 0, none⟩), .int .i64 0]) ∧ Blk w' gp 123 (plL b (openP D.lasts half)) ∧ w.heap.size ≤ gp ∧ Dk w' (Less S gp) b m D ∧ Fr No w w' := by
  have HD := Kp.mk hD
  have HOK := Kp.mk hok
  obtain ⟨v, hv, _⟩ := hD.ex
  have CS := Kp.mk (size_any hv)
  have CD := Kp.mk (down_any hv)
  rw [hok.up] at CD
  rw [hsz] at CS
  clear hD hv hok
  obtain ⟨z, hz⟩ : ∃ z : Nat, z = 2 * half := ⟨_, rfl⟩
  rw [← hz] at CS
  have z0 : (8 : Int) ≤ (z : Int) := by omega
  have z1 : (z : Int) ≤ 8192 := by omega
  have hm : (z : Int) % 2 = 0 := by omega
  have hq : (z : Int) / 2 = (half : Int) := by omega
  have HSZ := Kp.mk hsz
  clear hz hsz
  go_enter Try.func22, Try.ntmps22
  go_wp2_with (first
    | (go_at_call 73; refine CS.out.mono ?_; rintro e w1 ⟨rfl, hww⟩; subst hww)
    | (go_at_call 74; refine CD.out.mono ?_; rintro e w1 ⟨rfl, hww⟩; subst hww)
    | ((with_reducible refine gate_dst (N := 26) rfl ?_); refine ev_box rfl 123 _ rfl _ rfl (plL b ⟨half, 0, 0, []⟩) (by rfl) ?_; intro gp w2 hgp f2 b2))
  clear hm hq
  go_loopg [27] 2 (fun gg s wr => ∃ i : Nat, i ≤ 2 ∧ 2 - i ≤ gg ∧ s = .int .i64 i ∧ Kp (Fr No w2 wr ∨ True) ∧ Kp (Fr (One gp) w2 wr) ∧ Kp (Blk wr gp 123 (plL b (stO D.lasts half i))))
  case atStart => exact ⟨0, by omega, by omega, rfl, ⟨.inr trivial⟩, ⟨Fr.refl _ _⟩, ⟨b2⟩⟩
  case round =>
    obtain ⟨i, hi, hg, rfl, _, F, PB⟩ := hrel
    by_cases hlt : i < 2
    · have hltz : (i : Int) < 2 := by omega
      have FW : Fr No _ wr := f2.one F.out (.inr hgp)
      have hhalf := stO_half D.lasts half i
      have HST : Kp (stO D.lasts half (i + 1) = stepO (stO D.lasts half i) i (readL (halfL D.lasts half i) half)) := ⟨rfl⟩
      generalize stO D.lasts half i = p at PB hhalf HST
      have CR := Kp.mk (readP_any (HD.out.no FW) HOK.out PB.out i (by omega) (by omega) (by omega) (by rw [hhalf]; exact HSZ.out))
      rw [hhalf] at CR
      generalize readL (halfL D.lasts half i) half = r at CR HST
      obtain ⟨r1, r2⟩ := r
      dsimp only at CR
      have k3 := PB.out.at_ 3 rfl
      have HH := Kp.mk hhalf
      clear hhalf
      by_cases hn : p.number < r1
      · have HS2 : Kp (stepO p i (r1, r2) = ⟨p.half, i, r1, r2⟩) := ⟨if_pos hn⟩
        go_wp2_with (first
          | (go_at_call 75; refine CR.out.mono ?_; rintro e w3 ⟨rfl, f3⟩; have p3 := PB.out.no f3; have k33 := p3.at_ 3 rfl)
          | ((with_reducible refine gate_store (t := 3) (p := 49) rfl ?_); refine ev_store rfl 3 _ _ rfl gp 2 (.int .i64 (i : Int)) rfl rfl rfl 123 _ p3 (by show 2 < 5; decide) sizeInt ?_; intro w4 f4 b4)
          | ((with_reducible refine gate_store (t := 3) (p := 51) rfl ?_); refine ev_store rfl 3 _ _ rfl gp 3 (.int .i64 r1) rfl rfl rfl 123 _ b4 (by show 3 < 5; decide) sizeInt ?_; intro w5 f5 b5)
          | ((with_reducible refine gate_store (t := 9) (p := 53) rfl ?_); refine ev_store rfl 9 _ _ rfl gp 4 (.string (bs r2)) rfl rfl rfl 123 _ b5 (by show 4 < 5; decide) sizePtr ?_; intro w6 f6 b6))
        go_roundg (2 - (i + 1))
        case measure => omega
        case rel => exact ⟨i + 1, by omega, by omega, by go_num, ⟨.inr trivial⟩, ⟨(((F.out.no f3).one f4 (.inl rfl)).one f5 (.inl rfl)).one f6 (.inl rfl)⟩, ⟨by rw [HST.out, HS2.out]; exact b6⟩⟩
      · have HS2 : Kp (stepO p i (r1, r2) = p) := ⟨if_neg hn⟩
        go_wp2_with (first
          | (go_at_call 75; refine CR.out.mono ?_; rintro e w3 ⟨rfl, f3⟩; have p3 := PB.out.no f3; have k33 := p3.at_ 3 rfl))
        go_roundg (2 - (i + 1))
        case measure => omega
        case rel => exact ⟨i + 1, by omega, by omega, by go_num, ⟨.inr trivial⟩, ⟨F.out.no f3⟩, ⟨by rw [HST.out, HS2.out]; exact p3⟩⟩
    · obtain rfl : i = 2 := by omega
      go_wp2_with fail
      go_ret2
      exact ⟨gp, rfl, by rw [← stO_two]; exact PB.out, hgp, (HD.out.less_new f2 hgp b2.lt).one F.out (fun hh => hh.2 rfl), f2.one F.out (.inr hgp)⟩
end Go.Proofs.Ytaohfmmapammcaa.Pl

/- plate's Write: its closures. Conditions: sizes are bounded, as written out. -/
set_option linter.unusedSimpArgs false
set_option linter.unusedVariables false
namespace Go.Proofs.Ytaohfmmapammcaa.Pl
open Go Go.RowKit Go.Proofs.YtaohfmmapammcaaW.PrintWords Go.Proofs.YtaohfmmapammcaaW.PrintLast Go.Proofs.Ytaohfmmapammcaa.Sha Go.Proofs.Ytaohfmmapammcaa.Dig Go.Proofs.Ytaohfmmapammcaa.Ev Go.Proofs.Ytaohfmmapammcaa.Reg Go.Proofs.Ytaohfmmapammcaa.Ch

/-- A disk's effects and waiting writes are no more than c. -/
structure Bd (D : DiskS) (c : Nat) : Prop where
  pos : 0 ≤ D.count
  cnt : D.count ≤ c
  wait : D.wait.length ≤ c
theorem Bd.fail {D : DiskS} {c : Nat} (h : Bd D c) : Bd (failD D) (c + 1) := by
  have h0 := h.pos
  have h1 := h.cnt
  have h2 := h.wait
  unfold failD crashD countD
  by_cases a : D.cutAt = D.count + 1
  · rw [if_pos a]
    by_cases d : D.down
    · dsimp only
      rw [if_pos d]
      exact ⟨by show 0 ≤ D.count + 1; omega, by show D.count + 1 ≤ ((c + 1 : Nat) : Int); omega, by show D.wait.length ≤ c + 1; omega⟩
    · dsimp only
      rw [if_neg d]
      exact ⟨by show 0 ≤ D.count + 1; omega, by show D.count + 1 ≤ ((c + 1 : Nat) : Int); omega, by show 0 ≤ c + 1; omega⟩
  · rw [if_neg a]
    exact ⟨by show 0 ≤ D.count + 1; omega, by show D.count + 1 ≤ ((c + 1 : Nat) : Int); omega, by show D.wait.length ≤ c + 1; omega⟩
theorem Bd.more {D : DiskS} {c : Nat} (h : Bd D c) : Bd D (c + 1) := ⟨h.pos, by have := h.cnt; omega, by have := h.wait; omega⟩
theorem Bd.up {D : DiskS} {c c' : Nat} (h : Bd D c) (hc : c ≤ c') : Bd D c' := ⟨h.pos, by have := h.cnt; omega, by have := h.wait; omega⟩
theorem Bd.write {D : DiskS} {c : Nat} (h : Bd D c) (a : Int) (d : B) : Bd (writeD D a d).1 (c + 2) := by
  unfold writeD
  split
  · exact h.more.more
  · split
    · exact h.more.more
    · have hw : Bd (waitD D a d) (c + 1) := ⟨h.pos, by have := h.cnt; show D.count ≤ _; omega, by have := h.wait; simp [waitD]; omega⟩
      exact hw.fail
theorem Bd.flush {D : DiskS} {c : Nat} (h : Bd D c) : Bd (flushD D).1 (c + 2) := by
  unfold flushD
  split
  · exact h.more.more
  · have hf := h.fail.more
    split
    · exact hf
    · exact ⟨hf.pos, hf.cnt, by show 0 ≤ c + 2; omega⟩
theorem Bd.putD {D : DiskS} {x : Int} {c : Nat} {f : DiskS → DiskS × Int} (h : Bd D c) (hf : Bd D c → Bd (f D).1 (c + 2)) : Bd (putD (D, x) f).1 (c + 2) := by
  unfold Pl.putD
  split
  · exact hf h
  · exact h.more.more

theorem sizeErrno : (Try.prog.info? 32).map (·.size) = some 1 := by kernel_rfl
/-- S, and one block more. -/
def More (S : Nat → Prop) (g : Nat) : Nat → Prop := fun k => S k ∨ k = g

set_option maxHeartbeats 2000000 in
set_option maxRecDepth 100000 in
theorem put_flush {W : World} {S : Nat → Prop} {b m ge : Nat} {D : DiskS} {x : Int} (h : Dk W S b m D) (hb : Bd D 1099511627776) (hl : D.wait.length ≤ 1073741824) (he : Blk W ge 32 [.int .i64 x]) (hn : ¬ S ge) :
    Calls Try.prog 77 #[.func (.func 21) #[.pointer (some ⟨b, 0, none⟩)] #[], .pointer (some ⟨ge, 0, none⟩)] W fun e w' => e = .returned (.tuple #[]) ∧ Dk w' S b m (putD (D, x) flushD).1 ∧ Blk w' ge 32 [.int .i64 (putD (D, x) flushD).2] ∧ Fr (More S ge) W w' := by
  have CF := Kp.mk (flush_any h hb.pos hb.cnt (by omega))
  have H := Kp.mk h
  have HE := Kp.mk he
  have HN := Kp.mk hn
  have c0 := he.at_ 0 rfl
  clear h he hn hb
  by_cases hx : x = 0
  · subst hx
    have HP : Kp (putD (D, 0) flushD = flushD D) := ⟨putD_0 _ _⟩
    go_enter Try.func77, Try.ntmps77
    go_wp2_with (first
      | (go_at_call 21; refine CF.out.mono ?_; rintro e w1 ⟨rfl, h1, f1⟩; have e1 := HE.out.keep f1 HN.out)
      | ((with_reducible refine gate_store (t := 32) (p := 1) rfl ?_); refine ev_store rfl 32 _ _ rfl ge 0 (.int .i64 (flushD D).2) rfl rfl rfl 32 _ e1 (by show 0 < 1; decide) sizeErrno ?_; intro w2 f2 b2))
    go_end0
    rw [HP.out]
    exact ⟨rfl, h1.one f2 HN.out, b2, (f1.mono (fun i hi => .inl (.inl hi))).one f2 (.inl (.inr rfl))⟩
  · have HP : Kp (putD (D, x) flushD = (D, x)) := ⟨putD_no _ _ hx⟩
    have hxb : (x == 0) = false := by simpa using hx
    clear hx
    go_enter Try.func77, Try.ntmps77
    go_wp2_with fail
    go_end0
    rw [HP.out]
    exact ⟨rfl, H.out, HE.out, Fr.refl _ _⟩

/-- What the closure that writes one part has captured. -/
structure Caps (W : World) (g2 g5 g12 g10 gp b side i : Nat) (p : PlateS) (v : Value) (ps : List B) : Prop where
  p2 : Blk W g2 37 [.pointer (some ⟨gp, 0, none⟩)]
  s5 : Blk W g5 3 [.int .i64 (side : Int)]
  i12 : Blk W g12 3 [.int .i64 (i : Int)]
  v10 : Blk W g10 22 [v]
  pl : Blk W gp 123 (plL b p)
  row : W.ownsRow 0 9 1 v ps.length (ps.map fun x => Value.string (bs x))
theorem Caps.keep {W W1 : World} {g2 g5 g12 g10 gp b side i : Nat} {p : PlateS} {v : Value} {ps : List B} {S : Nat → Prop} (h : Caps W g2 g5 g12 g10 gp b side i p v ps) (f : Fr S W W1) (h2 : ¬ S g2) (h5 : ¬ S g5) (h12 : ¬ S g12) (h10 : ¬ S g10) (hp : ¬ S gp) (hv : ∀ k, v.ownBlock = some k → ¬ S k) :
    Caps W1 g2 g5 g12 g10 gp b side i p v ps := ⟨h.p2.keep f h2, h.s5.keep f h5, h.i12.keep f h12, h.v10.keep f h10, h.pl.keep f hp, own_keep h.row f hv⟩

noncomputable def bodyPart : Code := Try.f79.body.getD .skip
set_option maxHeartbeats 4000000 in
set_option maxRecDepth 100000 in
theorem part_any {W : World} {S : Nat → Prop} {b m g2 g5 g12 g10 gp side i : Nat} {D : DiskS} {p : PlateS} {v : Value} {ps : List B} (h : Dk W S b m D) (hb : Bd D 1099511627776) (hl : D.wait.length ≤ 1073741824)
    (hc : Caps W g2 g5 g12 g10 gp b side i p v ps) (hs : side ≤ 1) (hh : p.half ≤ 4096) (hi : i ≤ 4096) (y : B) (hy : ps[i]? = some y) (hyl : y.length ≤ 1099511627776) :
    Calls Try.prog 79 #[.pointer (some ⟨g2, 0, none⟩), .pointer (some ⟨g5, 0, none⟩), .pointer (some ⟨g12, 0, none⟩), .pointer (some ⟨g10, 0, none⟩)] W fun e w' => e = .returned (.int .i64 (writeD D ((side * p.half : Nat) + i) y).2) ∧ Dk w' S b m (writeD D ((side * p.half : Nat) + i) y).1 ∧ Fr S W w' := by
  obtain ⟨q, hq⟩ : ∃ q, q = side * p.half := ⟨_, rfl⟩
  rw [← hq]
  have hqN : q ≤ 4096 := by
    rcases (by omega : side = 0 ∨ side = 1) with e | e
    · rw [hq, e, Nat.zero_mul]; omega
    · rw [hq, e]; omega
  have CW : Kp (∀ n, Calls Try.prog 20 #[.pointer (some ⟨b, 0, none⟩), .int .i64 ((q : Int) + (i : Int)), .string (bs y)] (W.drewN n) fun e w' => e = .returned (.int .i64 (writeD D ((q : Int) + (i : Int)) y).2) ∧ Dk w' S b m (writeD D ((q : Int) + (i : Int)) y).1 ∧ Fr S W w') := ⟨fun n => by
    have h := write_any (h.no ((Fr.refl No W).drewN n)) ((q : Int) + (i : Int)) y hb.pos hb.cnt hl hyl
    exact h.mono fun e w' ⟨h1, h2, h3⟩ => ⟨h1, h2, ((Fr.refl S W).drewN n).trans h3 (fun i hi => .inl hi)⟩⟩
  have hil : i < ps.length := (List.getElem?_eq_some_iff.1 hy).1
  obtain ⟨A, cp, hv⟩ := own_slice hc.row
  subst hv
  obtain ⟨g, rfl⟩ : ∃ g, A = some ⟨g, 0, none⟩ := by
    rcases hc.row.2 with ⟨h1, h2⟩ | ⟨g, cap, cur, h1, _⟩
    · omega
    · injection h1 with h1
      exact ⟨g, h1⟩
  have l1 := hc.row.cells (g := g) rfl i (.string (bs y)) (by simp [hy])
  rw [Addr.add_lit, Nat.zero_add] at l1
  have c2 := hc.p2.at_ 0 rfl
  have c5 := hc.s5.at_ 0 rfl
  have c12 := hc.i12.at_ 0 rfl
  have c10 := hc.v10.at_ 0 rfl
  have k0 := hc.pl.at_ 0 rfl
  have k1 := hc.pl.at_ 1 rfl
  have hw1 : IntKind.i64.wrap ((side : Int) * (p.half : Int)) = (q : Int) := by rw [IntKind.wrap_i64, show (side : Int) * (p.half : Int) = (q : Int) by rw [hq]; simp]; omega
  have hw2 : IntKind.i64.wrap ((q : Int) + (i : Int)) = (q : Int) + (i : Int) := by rw [IntKind.wrap_i64]; omega
  have hi0 : (0 : Int) ≤ (i : Int) := by omega
  have hilz : (i : Int) < (ps.length : Int) := by omega
  clear hq hy hc h hb
  go_enter Try.func79, Try.ntmps79
  go_wp2_with fail
  refine wp_region_drawn_tail 16 (by kernel_rfl) (by kernel_rfl) ?_
  simp only [List.take_succ_cons, List.take_zero, List.drop_succ_cons, List.drop_zero]
  repeat (first | go_big_quiet_step (fail) | quiet_step (fail))
  refine wpQuiet_nil ?_
  rintro _ ⟨mm, rfl⟩
  clear hw1 hw2
  go_wp2_with (go_at_call 20; refine (CW.out _).mono ?_; rintro e w1 ⟨rfl, h1, f1⟩)
  go_ret
  exact ⟨rfl, h1, f1⟩

set_option maxHeartbeats 2000000 in
set_option maxRecDepth 100000 in
theorem put_part {W : World} {S : Nat → Prop} {b m ge g2 g5 g12 g10 gp side i : Nat} {D : DiskS} {x : Int} {p : PlateS} {v : Value} {ps : List B} (h : Dk W S b m D) (hb : Bd D 1099511627776) (hl : D.wait.length ≤ 1073741824) (he : Blk W ge 32 [.int .i64 x]) (hn : ¬ S ge)
    (hc : Caps W g2 g5 g12 g10 gp b side i p v ps) (hs : side ≤ 1) (hh : p.half ≤ 4096) (hi : i ≤ 4096) (y : B) (hy : ps[i]? = some y) (hyl : y.length ≤ 1099511627776) :
    Calls Try.prog 77 #[.func (.func 79) #[] #[.pointer (some ⟨g2, 0, none⟩), .pointer (some ⟨g5, 0, none⟩), .pointer (some ⟨g12, 0, none⟩), .pointer (some ⟨g10, 0, none⟩)], .pointer (some ⟨ge, 0, none⟩)] W fun e w' => e = .returned (.tuple #[]) ∧
      Dk w' S b m (putD (D, x) (fun D => writeD D ((side * p.half : Nat) + i) y)).1 ∧ Blk w' ge 32 [.int .i64 (putD (D, x) (fun D => writeD D ((side * p.half : Nat) + i) y)).2] ∧ Fr (More S ge) W w' := by
  have CF := Kp.mk (part_any h hb hl hc hs hh hi y hy hyl)
  have H := Kp.mk h
  have HE := Kp.mk he
  have HN := Kp.mk hn
  have c0 := he.at_ 0 rfl
  clear h he hn hb hc hy
  generalize ((side * p.half : Nat) : Int) + (i : Int) = a at CF ⊢
  by_cases hx : x = 0
  · subst hx
    have HP : Kp (putD (D, 0) (fun D => writeD D a y) = writeD D a y) := ⟨putD_0 _ _⟩
    go_enter Try.func77, Try.ntmps77
    go_wp2_with (first
      | (go_at_call 79; refine CF.out.mono ?_; rintro e w1 ⟨rfl, h1, f1⟩; have e1 := HE.out.keep f1 HN.out)
      | ((with_reducible refine gate_store (t := 32) (p := 1) rfl ?_); refine ev_store rfl 32 _ _ rfl ge 0 (.int .i64 (writeD D a y).2) rfl rfl rfl 32 _ e1 (by show 0 < 1; decide) sizeErrno ?_; intro w2 f2 b2))
    go_end0
    rw [HP.out]
    exact ⟨rfl, h1.one f2 HN.out, b2, (f1.mono (fun i hi => .inl (.inl hi))).one f2 (.inl (.inr rfl))⟩
  · have HP : Kp (putD (D, x) (fun D => writeD D a y) = (D, x)) := ⟨putD_no _ _ hx⟩
    have hxb : (x == 0) = false := by simpa using hx
    clear hx
    go_enter Try.func77, Try.ntmps77
    go_wp2_with fail
    go_end0
    rw [HP.out]
    exact ⟨rfl, H.out, HE.out, Fr.refl _ _⟩
end Go.Proofs.Ytaohfmmapammcaa.Pl

/- plate's Write: the two regions ahead of its loops that draw their order. Conditions: sizes are bounded, as written out. -/
set_option linter.unusedSimpArgs false
set_option linter.unusedVariables false
namespace Go.Proofs.Ytaohfmmapammcaa.Pl
open Go Go.RowKit Go.Proofs.YtaohfmmapammcaaW.PrintWords Go.Proofs.YtaohfmmapammcaaW.PrintLast Go.Proofs.Ytaohfmmapammcaa.Sha Go.Proofs.Ytaohfmmapammcaa.Dig Go.Proofs.Ytaohfmmapammcaa.Ev Go.Proofs.Ytaohfmmapammcaa.Reg Go.Proofs.Ytaohfmmapammcaa.Ch
theorem zeroInt : (Try.prog.info? 3).bind (·.zero) = some (.int .i64 0) := by kernel_rfl
theorem zeroErrno : (Try.prog.info? 32).bind (·.zero) = some (.int .i64 0) := by kernel_rfl
noncomputable def bodyPW : Code := Try.f26.body.getD .skip

set_option maxHeartbeats 8000000 in
set_option maxRecDepth 100000 in
theorem pw_reg5 (b gp g2 : Nat) (s : B) (p : PlateS) (W : World) (u : Nat → Value) (hs : p.side ≤ 1) (h0 : 0 ≤ p.number) (h1 : p.number < 2147483647) (B2 : Blk W g2 37 [.pointer (some ⟨gp, 0, none⟩)]) (BP : Blk W gp 123 (plL b p)) (Q : Exit → Act → World → Prop)
    (hQ : ∀ (u : Nat → Value) g5 ws, W.heap.size ≤ g5 → Fr No W ws → Blk ws g5 3 [.int .i64 ((1 - p.side : Nat) : Int)] → Q .normal { tmps := List.toArray (.pointer (some ⟨gp, 0, none⟩) :: .string (bs s) :: .pointer (some ⟨g2, 0, none⟩) :: u 3 :: u 4 :: .pointer (some ⟨g5, 0, none⟩) :: .int .i64 (p.number + 1) :: u 7 :: u 8 :: u 9 :: u 10 :: u 11 :: u 12 :: u 13 :: u 14 :: u 15 :: u 16 :: u 17 :: u 18 :: u 19 :: u 20 :: u 21 :: u 22 :: u 23 :: u 24 :: u 25 :: u 26 :: u 27 :: u 28 :: u 29 :: u 30 :: u 31 :: u 32 :: u 33 :: u 34 :: u 35 :: u 36 :: u 37 :: u 38 :: u 39 :: u 40 :: u 41 :: u 42 :: u 43 :: u 44 :: u 45 :: u 46 :: u 47 :: u 48 :: u 49 :: u 50 :: u 51 :: u 52 :: u 53 :: u 54 :: u 55 :: u 56 :: u 57 :: u 58 :: u 59 :: u 60 :: u 61 :: u 62 :: u 63 :: u 64 :: u 65 :: u 66 :: u 67 :: u 68 :: u 69 :: u 70 :: u 71 :: u 72 :: u 73 :: u 74 :: u 75 :: u 76 :: u 77 :: u 78 :: u 79 :: u 80 :: u 81 :: u 82 :: u 83 :: u 84 :: u 85 :: u 86 :: u 87 :: u 88 :: u 89 :: u 90 :: u 91 :: u 92 :: u 93 :: u 94 :: u 95 :: u 96 :: u 97 :: u 98 :: u 99 :: u 100 :: u 101 :: u 102 :: u 103 :: u 104 :: u 105 :: u 106 :: u 107 :: u 108 :: u 109 :: u 110 :: u 111 :: u 112 :: u 113 :: u 114 :: u 115 :: u 116 :: u 117 :: u 118 :: []), defers := [] } ws) :
    Code.wp Try.prog (sub [1,1,0] bodyPW) Q { tmps := List.toArray (.pointer (some ⟨gp, 0, none⟩) :: .string (bs s) :: .pointer (some ⟨g2, 0, none⟩) :: u 3 :: u 4 :: u 5 :: u 6 :: u 7 :: u 8 :: u 9 :: u 10 :: u 11 :: u 12 :: u 13 :: u 14 :: u 15 :: u 16 :: u 17 :: u 18 :: u 19 :: u 20 :: u 21 :: u 22 :: u 23 :: u 24 :: u 25 :: u 26 :: u 27 :: u 28 :: u 29 :: u 30 :: u 31 :: u 32 :: u 33 :: u 34 :: u 35 :: u 36 :: u 37 :: u 38 :: u 39 :: u 40 :: u 41 :: u 42 :: u 43 :: u 44 :: u 45 :: u 46 :: u 47 :: u 48 :: u 49 :: u 50 :: u 51 :: u 52 :: u 53 :: u 54 :: u 55 :: u 56 :: u 57 :: u 58 :: u 59 :: u 60 :: u 61 :: u 62 :: u 63 :: u 64 :: u 65 :: u 66 :: u 67 :: u 68 :: u 69 :: u 70 :: u 71 :: u 72 :: u 73 :: u 74 :: u 75 :: u 76 :: u 77 :: u 78 :: u 79 :: u 80 :: u 81 :: u 82 :: u 83 :: u 84 :: u 85 :: u 86 :: u 87 :: u 88 :: u 89 :: u 90 :: u 91 :: u 92 :: u 93 :: u 94 :: u 95 :: u 96 :: u 97 :: u 98 :: u 99 :: u 100 :: u 101 :: u 102 :: u 103 :: u 104 :: u 105 :: u 106 :: u 107 :: u 108 :: u 109 :: u 110 :: u 111 :: u 112 :: u 113 :: u 114 :: u 115 :: u 116 :: u 117 :: u 118 :: []), defers := [] } W := by
  conv => arg 2; whnf
  have hw1 : IntKind.i64.wrap (1 - (p.side : Int)) = ((1 - p.side : Nat) : Int) := by rw [IntKind.wrap_i64]; omega
  have hw2 : IntKind.i64.wrap (p.number + 1) = p.number + 1 := by rw [IntKind.wrap_i64]; omega
  have fd := (Fr.refl No W).drew
  have HQ := Kp.mk hQ
  clear hQ hs h0 h1
  refine region_join (τ := Nat) (fun (u : Nat → Value) t => [(5, .pointer (some ⟨t, 0, none⟩)), (6, .int .i64 (p.number + 1)), (25, u 25), (26, u 26), (27, u 27), (28, u 28), (29, u 29), (30, u 30), (31, u 31), (32, u 32), (33, u 33), (34, u 34)]) (fun t ws => W.heap.size ≤ t ∧ Fr No W ws ∧ Blk ws t 3 [.int .i64 ((1 - p.side : Nat) : Int)]) ?_ ?_
  rotate_left
  · rintro u' g5 ws ⟨q1, q2, q3⟩
    simp only [putAll, Act.put, List.setIfInBounds_toArray, List.set_cons_zero, List.set_cons_succ]
    exact K_u (K := Q .normal) (fun u => HQ.out u g5 ws q1 q2 q3) rfl
  refine start_ (n := 13) (S := (fun w' => Blk w' g2 37 [.pointer (some ⟨gp, 0, none⟩)] ∧ Blk w' gp 123 (plL b p) ∧ Fr No W w')) (ds := []) #[false, false, false, false, false, false, false, false, false, false, false, false, false] (by kernel_rfl) rfl rfl ⟨B2.no fd, BP.no fd, fd⟩ (fun hHeld => ?_)
  refine take_ (i := 0) (N := some 25) (v := ?_) (a' := ?_) #[true, false, false, false, false, false, false, false, false, false, false, false, false] rfl rfl (by kernel_rfl) (fun _ _ _ h => h.pan) (Or.inl ⟨by rfl, ?_⟩) hHeld ?_ ?_
  rotate_left
  · rintro w' ⟨s0, s1, s2⟩; have c2 := s0.at_ 0 rfl; have k2 := s1.at_ 2 rfl; have k3 := s1.at_ 3 rfl; go_simp; with_reducible rfl
  rotate_left
  · simp only [Act.put, List.setIfInBounds_toArray, List.set_cons_zero, List.set_cons_succ]; rfl
  refine pure_ (i := 1) (N := some 26) (v := ?_) (a' := ?_) #[true, true, false, false, false, false, false, false, false, false, false, false, false] rfl rfl (by kernel_rfl) (fun _ _ _ h => h.pan) (Or.inl ⟨by rfl, ?_⟩) ?_ ?_
  rotate_left
  · intro w'; go_simp; with_reducible rfl
  rotate_left
  · simp only [Act.put, List.setIfInBounds_toArray, List.set_cons_zero, List.set_cons_succ]; rfl
  refine pure_ (i := 2) (N := some 27) (v := ?_) (a' := ?_) #[true, true, true, false, false, false, false, false, false, false, false, false, false] rfl rfl (by kernel_rfl) (fun _ _ _ h => h.pan) (Or.inl ⟨by rfl, ?_⟩) ?_ ?_
  rotate_left
  · intro w'; go_simp; with_reducible rfl
  rotate_left
  · simp only [Act.put, List.setIfInBounds_toArray, List.set_cons_zero, List.set_cons_succ]; rfl
  refine take_ (i := 3) (N := some 28) (v := ?_) (a' := ?_) #[true, true, true, true, false, false, false, false, false, false, false, false, false] rfl rfl (by kernel_rfl) (fun _ _ _ h => h.pan) (Or.inl ⟨by rfl, ?_⟩) hHeld ?_ ?_
  rotate_left
  · rintro w' ⟨s0, s1, s2⟩; have c2 := s0.at_ 0 rfl; have k2 := s1.at_ 2 rfl; have k3 := s1.at_ 3 rfl; go_simp; with_reducible rfl
  rotate_left
  · simp only [Act.put, List.setIfInBounds_toArray, List.set_cons_zero, List.set_cons_succ]; rfl
  refine pure_ (i := 4) (N := some 29) (v := ?_) (a' := ?_) #[true, true, true, true, true, false, false, false, false, false, false, false, false] rfl rfl (by kernel_rfl) (fun _ _ _ h => h.pan) (Or.inl ⟨by rfl, ?_⟩) ?_ ?_
  rotate_left
  · intro w'; go_simp; with_reducible rfl
  rotate_left
  · simp only [Act.put, List.setIfInBounds_toArray, List.set_cons_zero, List.set_cons_succ]; rfl
  refine take_ (i := 5) (N := some 30) (v := ?_) (a' := ?_) #[true, true, true, true, true, true, false, false, false, false, false, false, false] rfl rfl (by kernel_rfl) (fun _ _ _ h => h.pan) (Or.inl ⟨by rfl, ?_⟩) hHeld ?_ ?_
  rotate_left
  · rintro w' ⟨s0, s1, s2⟩; have c2 := s0.at_ 0 rfl; have k2 := s1.at_ 2 rfl; have k3 := s1.at_ 3 rfl; go_simp; with_reducible rfl
  rotate_left
  · simp only [Act.put, List.setIfInBounds_toArray, List.set_cons_zero, List.set_cons_succ]; rfl
  refine pure_ (i := 6) (N := some 31) (v := ?_) (a' := ?_) #[true, true, true, true, true, true, true, false, false, false, false, false, false] rfl rfl (by kernel_rfl) (fun _ _ _ h => h.pan) (Or.inl ⟨by rfl, ?_⟩) ?_ ?_
  rotate_left
  · intro w'; go_simp; with_reducible rfl
  rotate_left
  · simp only [Act.put, List.setIfInBounds_toArray, List.set_cons_zero, List.set_cons_succ]; rfl
  refine pure_ (i := 7) (N := some 32) (v := ?_) (a' := ?_) #[true, true, true, true, true, true, true, true, false, false, false, false, false] rfl rfl (by kernel_rfl) (fun _ _ _ h => h.pan) (Or.inl ⟨by rfl, ?_⟩) ?_ ?_
  rotate_left
  · intro w'; go_simp; with_reducible rfl
  rotate_left
  · simp only [Act.put, List.setIfInBounds_toArray, List.set_cons_zero, List.set_cons_succ]; rfl
  refine take_ (i := 8) (N := some 33) (v := ?_) (a' := ?_) #[true, true, true, true, true, true, true, true, true, false, false, false, false] rfl rfl (by kernel_rfl) (fun _ _ _ h => h.pan) (Or.inl ⟨by rfl, ?_⟩) hHeld ?_ ?_
  rotate_left
  · rintro w' ⟨s0, s1, s2⟩; have c2 := s0.at_ 0 rfl; have k2 := s1.at_ 2 rfl; have k3 := s1.at_ 3 rfl; go_simp; with_reducible rfl
  rotate_left
  · simp only [Act.put, List.setIfInBounds_toArray, List.set_cons_zero, List.set_cons_succ]; rfl
  refine pure_ (i := 9) (N := some 34) (v := ?_) (a' := ?_) #[true, true, true, true, true, true, true, true, true, true, false, false, false] rfl rfl (by kernel_rfl) (fun _ _ _ h => h.pan) (Or.inl ⟨by rfl, ?_⟩) ?_ ?_
  rotate_left
  · intro w'; go_simp; with_reducible rfl
  rotate_left
  · simp only [Act.put, List.setIfInBounds_toArray, List.set_cons_zero, List.set_cons_succ]; rfl
  refine one_ (i := 10) (N := some 5) #[true, true, true, true, true, true, true, true, true, true, true, false, false] rfl rfl (by kernel_rfl) (by decide) (fun K hK => ?_)
  refine step_alloc (N := some 5) rfl rfl 3 rfl _ [.int .i64 0] zeroInt rfl ?_; intro g5 wp hg5 fp bp; have hg5 := Nat.le_trans hHeld.2.2.size hg5; refine hK.out _ _ ⟨hHeld.1.no fp, hHeld.2.1.no fp, hHeld.2.2.no fp⟩ (fun hHeld => ?_)
  clear hK K
  refine norm_ (a' := ?_) ?_ ?_
  rotate_left
  · simp only [Act.put, List.setIfInBounds_toArray, List.set_cons_zero, List.set_cons_succ]; rfl
  refine one_ (i := 11) (N := none) #[true, true, true, true, true, true, true, true, true, true, true, true, false] rfl rfl (by kernel_rfl) (by decide) (fun K hK => ?_)
  refine step_storeN (N := none) rfl rfl 3 (.tmp 5) (.tmp 29) rfl g5 0 (.int .i64 ((1 - p.side : Nat) : Int)) rfl rfl rfl 3 _ bp (by show 0 < 1; decide) sizeInt ?_; intro ws fs bs'; refine hK.out _ _ ⟨hHeld.1.one fs (by have := B2.lt; omega), hHeld.2.1.one fs (by have := BP.lt; omega), hHeld.2.2.one fs (.inr hg5)⟩ (fun hHeld => ?_)
  clear hK K
  refine norm_ (a' := ?_) ?_ ?_
  rotate_left
  · simp only [Act.put, List.setIfInBounds_toArray, List.set_cons_zero, List.set_cons_succ]; rfl
  refine pure_ (i := 12) (N := some 6) (v := ?_) (a' := ?_) #[true, true, true, true, true, true, true, true, true, true, true, true, true] rfl rfl (by kernel_rfl) (fun _ _ _ h => h.pan) (Or.inl ⟨by rfl, ?_⟩) ?_ ?_
  rotate_left
  · intro w'; go_simp; with_reducible rfl
  rotate_left
  · simp only [Act.put, List.setIfInBounds_toArray, List.set_cons_zero, List.set_cons_succ]; rfl
  refine done_ (by kernel_rfl) ?_
  refine join_fin g5 ?_ ?_; exact ⟨hg5, hHeld.2.2, bs'⟩; (simp only [putAll, Act.put, List.setIfInBounds_toArray, List.set_cons_zero, List.set_cons_succ]; rfl)

set_option maxHeartbeats 8000000 in
set_option maxRecDepth 100000 in
theorem pw_reg7 (b m gp g2 g5 q side : Nat) (n1 : Int) (s t7 : B) (p : PlateS) (Sd : Nat → Prop) (D : DiskS) (W : World) (u : Nat → Value) (hq : q = side * p.half) (hq1 : q ≤ 4096) (hD : Dk W Sd b m D) (hb : Bd D 1073741824) (B2 : Blk W g2 37 [.pointer (some ⟨gp, 0, none⟩)]) (BP : Blk W gp 123 (plL b p)) (B5 : Blk W g5 3 [.int .i64 (side : Int)])
    (n2 : ¬ Sd g2) (np : ¬ Sd gp) (n5 : ¬ Sd g5) (Q : Exit → Act → World → Prop)
    (hQ : ∀ (u : Nat → Value) g8 ws, W.heap.size ≤ g8 → Dk ws (Less Sd g8) b m (writeD D (q : Int) []).1 → Blk ws g8 32 [.int .i64 (writeD D (q : Int) []).2] → Fr Sd W ws → Q .normal { tmps := List.toArray (.pointer (some ⟨gp, 0, none⟩) :: .string (bs s) :: .pointer (some ⟨g2, 0, none⟩) :: u 3 :: u 4 :: .pointer (some ⟨g5, 0, none⟩) :: .int .i64 n1 :: .string (bs t7) :: .pointer (some ⟨g8, 0, none⟩) :: u 9 :: u 10 :: u 11 :: u 12 :: u 13 :: u 14 :: u 15 :: u 16 :: u 17 :: u 18 :: u 19 :: u 20 :: u 21 :: u 22 :: u 23 :: u 24 :: u 25 :: u 26 :: u 27 :: u 28 :: u 29 :: u 30 :: u 31 :: u 32 :: u 33 :: u 34 :: u 35 :: u 36 :: u 37 :: u 38 :: u 39 :: u 40 :: u 41 :: u 42 :: u 43 :: u 44 :: u 45 :: u 46 :: u 47 :: u 48 :: u 49 :: u 50 :: u 51 :: u 52 :: u 53 :: u 54 :: u 55 :: u 56 :: u 57 :: u 58 :: u 59 :: u 60 :: u 61 :: u 62 :: u 63 :: u 64 :: u 65 :: u 66 :: u 67 :: u 68 :: u 69 :: u 70 :: u 71 :: u 72 :: u 73 :: u 74 :: u 75 :: u 76 :: u 77 :: u 78 :: u 79 :: u 80 :: u 81 :: u 82 :: u 83 :: u 84 :: u 85 :: u 86 :: u 87 :: u 88 :: u 89 :: u 90 :: u 91 :: u 92 :: u 93 :: u 94 :: u 95 :: u 96 :: u 97 :: u 98 :: u 99 :: u 100 :: u 101 :: u 102 :: u 103 :: u 104 :: u 105 :: u 106 :: u 107 :: u 108 :: u 109 :: u 110 :: u 111 :: u 112 :: u 113 :: u 114 :: u 115 :: u 116 :: u 117 :: u 118 :: []), defers := [] } ws) :
    Code.wp Try.prog (sub [1,1,1,1,0] bodyPW) Q { tmps := List.toArray (.pointer (some ⟨gp, 0, none⟩) :: .string (bs s) :: .pointer (some ⟨g2, 0, none⟩) :: u 3 :: u 4 :: .pointer (some ⟨g5, 0, none⟩) :: .int .i64 n1 :: .string (bs t7) :: u 8 :: u 9 :: u 10 :: u 11 :: u 12 :: u 13 :: u 14 :: u 15 :: u 16 :: u 17 :: u 18 :: u 19 :: u 20 :: u 21 :: u 22 :: u 23 :: u 24 :: u 25 :: u 26 :: u 27 :: u 28 :: u 29 :: u 30 :: u 31 :: u 32 :: u 33 :: u 34 :: u 35 :: u 36 :: u 37 :: u 38 :: u 39 :: u 40 :: u 41 :: u 42 :: u 43 :: u 44 :: u 45 :: u 46 :: u 47 :: u 48 :: u 49 :: u 50 :: u 51 :: u 52 :: u 53 :: u 54 :: u 55 :: u 56 :: u 57 :: u 58 :: u 59 :: u 60 :: u 61 :: u 62 :: u 63 :: u 64 :: u 65 :: u 66 :: u 67 :: u 68 :: u 69 :: u 70 :: u 71 :: u 72 :: u 73 :: u 74 :: u 75 :: u 76 :: u 77 :: u 78 :: u 79 :: u 80 :: u 81 :: u 82 :: u 83 :: u 84 :: u 85 :: u 86 :: u 87 :: u 88 :: u 89 :: u 90 :: u 91 :: u 92 :: u 93 :: u 94 :: u 95 :: u 96 :: u 97 :: u 98 :: u 99 :: u 100 :: u 101 :: u 102 :: u 103 :: u 104 :: u 105 :: u 106 :: u 107 :: u 108 :: u 109 :: u 110 :: u 111 :: u 112 :: u 113 :: u 114 :: u 115 :: u 116 :: u 117 :: u 118 :: []), defers := [] } W := by
  conv => arg 2; whnf
  have hw1 : IntKind.i64.wrap ((side : Int) * (p.half : Int)) = (q : Int) := by rw [IntKind.wrap_i64, show (side : Int) * (p.half : Int) = (q : Int) by rw [hq]; simp]; omega
  have CW : Kp (∀ w' S', Dk w' S' b m D → Calls Try.prog 20 #[.pointer (some ⟨b, 0, none⟩), .int .i64 (q : Int), .string ⟨#[]⟩] w' fun e w'' => e = .returned (.int .i64 (writeD D (q : Int) []).2) ∧ Dk w'' S' b m (writeD D (q : Int) []).1 ∧ Fr S' w' w'') := ⟨fun w' S' h => write_any h (q : Int) [] hb.pos (by have := hb.cnt; omega) hb.wait (by simp)⟩
  have fd := (Fr.refl No W).drew
  have HQ := Kp.mk hQ
  have HD := Kp.mk (hD.no fd)
  have N2 := Kp.mk n2
  have NP := Kp.mk np
  have N5 := Kp.mk n5
  obtain ⟨r, hr⟩ : ∃ r, r = writeD D (q : Int) [] := ⟨_, rfl⟩
  rw [← hr] at CW HQ
  clear hQ hq hD hb n2 np n5 hr
  refine region_join (τ := Nat) (fun (u : Nat → Value) t => [(8, .pointer (some ⟨t, 0, none⟩)), (38, u 38), (39, u 39), (40, u 40), (41, u 41), (42, u 42), (43, u 43), (44, u 44), (45, u 45), (46, u 46), (47, u 47), (48, u 48)]) (fun t ws => W.heap.size ≤ t ∧ Dk ws (Less Sd t) b m r.1 ∧ Blk ws t 32 [.int .i64 r.2] ∧ Fr Sd W ws) ?_ ?_
  rotate_left
  · rintro u' g8 ws ⟨q1, q2, q3, q4⟩
    simp only [putAll, Act.put, List.setIfInBounds_toArray, List.set_cons_zero, List.set_cons_succ]
    exact K_u (K := Q .normal) (fun u => HQ.out u g8 ws q1 q2 q3 q4) rfl
  refine start_ (n := 13) (S := (fun w' => Blk w' g2 37 [.pointer (some ⟨gp, 0, none⟩)] ∧ Blk w' gp 123 (plL b p) ∧ Blk w' g5 3 [.int .i64 (side : Int)] ∧ Fr Sd W w')) (ds := [12]) #[false, false, false, false, false, false, false, false, false, false, false, false, false] (by kernel_rfl) rfl rfl ⟨B2.no fd, BP.no fd, B5.no fd, fd.mono (fun i h => h.elim)⟩ (fun hHeld => ?_)
  refine take_ (i := 0) (N := some 38) (v := ?_) (a' := ?_) #[true, false, false, false, false, false, false, false, false, false, false, false, false] rfl rfl (by kernel_rfl) (fun _ _ _ h => h.pan) (Or.inl ⟨by rfl, ?_⟩) hHeld ?_ ?_
  rotate_left
  · rintro w' ⟨s0, s1, s2, s3⟩; have c2 := s0.at_ 0 rfl; have k0 := s1.at_ 0 rfl; have k1 := s1.at_ 1 rfl; have c5 := s2.at_ 0 rfl; go_simp; with_reducible rfl
  rotate_left
  · simp only [Act.put, List.setIfInBounds_toArray, List.set_cons_zero, List.set_cons_succ]; rfl
  refine pure_ (i := 1) (N := some 39) (v := ?_) (a' := ?_) #[true, true, false, false, false, false, false, false, false, false, false, false, false] rfl rfl (by kernel_rfl) (fun _ _ _ h => h.pan) (Or.inl ⟨by rfl, ?_⟩) ?_ ?_
  rotate_left
  · intro w'; go_simp; with_reducible rfl
  rotate_left
  · simp only [Act.put, List.setIfInBounds_toArray, List.set_cons_zero, List.set_cons_succ]; rfl
  refine pure_ (i := 2) (N := some 40) (v := ?_) (a' := ?_) #[true, true, true, false, false, false, false, false, false, false, false, false, false] rfl rfl (by kernel_rfl) (fun _ _ _ h => h.pan) (Or.inl ⟨by rfl, ?_⟩) ?_ ?_
  rotate_left
  · intro w'; go_simp; with_reducible rfl
  rotate_left
  · simp only [Act.put, List.setIfInBounds_toArray, List.set_cons_zero, List.set_cons_succ]; rfl
  refine take_ (i := 3) (N := some 41) (v := ?_) (a' := ?_) #[true, true, true, true, false, false, false, false, false, false, false, false, false] rfl rfl (by kernel_rfl) (fun _ _ _ h => h.pan) (Or.inl ⟨by rfl, ?_⟩) hHeld ?_ ?_
  rotate_left
  · rintro w' ⟨s0, s1, s2, s3⟩; have c2 := s0.at_ 0 rfl; have k0 := s1.at_ 0 rfl; have k1 := s1.at_ 1 rfl; have c5 := s2.at_ 0 rfl; go_simp; with_reducible rfl
  rotate_left
  · simp only [Act.put, List.setIfInBounds_toArray, List.set_cons_zero, List.set_cons_succ]; rfl
  refine take_ (i := 4) (N := some 42) (v := ?_) (a' := ?_) #[true, true, true, true, true, false, false, false, false, false, false, false, false] rfl rfl (by kernel_rfl) (fun _ _ _ h => h.pan) (Or.inl ⟨by rfl, ?_⟩) hHeld ?_ ?_
  rotate_left
  · rintro w' ⟨s0, s1, s2, s3⟩; have c2 := s0.at_ 0 rfl; have k0 := s1.at_ 0 rfl; have k1 := s1.at_ 1 rfl; have c5 := s2.at_ 0 rfl; go_simp; with_reducible rfl
  rotate_left
  · simp only [Act.put, List.setIfInBounds_toArray, List.set_cons_zero, List.set_cons_succ]; rfl
  refine take_ (i := 5) (N := some 43) (v := ?_) (a' := ?_) #[true, true, true, true, true, true, false, false, false, false, false, false, false] rfl rfl (by kernel_rfl) (fun _ _ _ h => h.pan) (Or.inl ⟨by rfl, ?_⟩) hHeld ?_ ?_
  rotate_left
  · rintro w' ⟨s0, s1, s2, s3⟩; have c2 := s0.at_ 0 rfl; have k0 := s1.at_ 0 rfl; have k1 := s1.at_ 1 rfl; have c5 := s2.at_ 0 rfl; go_simp; with_reducible rfl
  rotate_left
  · simp only [Act.put, List.setIfInBounds_toArray, List.set_cons_zero, List.set_cons_succ]; rfl
  refine pure_ (i := 6) (N := some 44) (v := ?_) (a' := ?_) #[true, true, true, true, true, true, true, false, false, false, false, false, false] rfl rfl (by kernel_rfl) (fun _ _ _ h => h.pan) (Or.inl ⟨by rfl, ?_⟩) ?_ ?_
  rotate_left
  · intro w'; go_simp; with_reducible rfl
  rotate_left
  · simp only [Act.put, List.setIfInBounds_toArray, List.set_cons_zero, List.set_cons_succ]; rfl
  refine pure_ (i := 7) (N := some 45) (v := ?_) (a' := ?_) #[true, true, true, true, true, true, true, true, false, false, false, false, false] rfl rfl (by kernel_rfl) (fun _ _ _ h => h.pan) (Or.inl ⟨by rfl, ?_⟩) ?_ ?_
  rotate_left
  · intro w'; go_simp; with_reducible rfl
  rotate_left
  · simp only [Act.put, List.setIfInBounds_toArray, List.set_cons_zero, List.set_cons_succ]; rfl
  refine take_ (i := 8) (N := some 46) (v := ?_) (a' := ?_) #[true, true, true, true, true, true, true, true, true, false, false, false, false] rfl rfl (by kernel_rfl) (fun _ _ _ h => h.pan) (Or.inl ⟨by rfl, ?_⟩) hHeld ?_ ?_
  rotate_left
  · rintro w' ⟨s0, s1, s2, s3⟩; have c2 := s0.at_ 0 rfl; have k0 := s1.at_ 0 rfl; have k1 := s1.at_ 1 rfl; have c5 := s2.at_ 0 rfl; go_simp; with_reducible rfl
  rotate_left
  · simp only [Act.put, List.setIfInBounds_toArray, List.set_cons_zero, List.set_cons_succ]; rfl
  refine pure_ (i := 9) (N := some 47) (v := ?_) (a' := ?_) #[true, true, true, true, true, true, true, true, true, true, false, false, false] rfl rfl (by kernel_rfl) (fun _ _ _ h => h.pan) (Or.inl ⟨by rfl, ?_⟩) ?_ ?_
  rotate_left
  · intro w'; go_simp; with_reducible rfl
  rotate_left
  · simp only [Act.put, List.setIfInBounds_toArray, List.set_cons_zero, List.set_cons_succ]; rfl
  refine two_ (i := 10) (j := 11) (Ni := some 48) (Nj := some 8) #[true, true, true, true, true, true, true, true, true, true, true, false, false] #[true, true, true, true, true, true, true, true, true, true, false, true, false] rfl rfl rfl rfl (by kernel_rfl) (by decide) (by decide) (fun K hK => ?_) (fun K hK => ?_)
  · refine goes_ Try.func20 (by kernel_rfl) rfl #[.pointer (some ⟨b, 0, none⟩), .int .i64 (q : Int), .string ⟨#[]⟩] (by rfl) rfl rfl (by simp only [List.map_toArray, List.map_cons, List.map_nil]; rfl) ?_; (first | refine (CW.out _ _ (HD.out.less_new fp hg8' bp.lt)).mono ?_ | refine (CW.out _ _ HD.out).mono ?_); rintro e wq ⟨rfl, dq, fq⟩; refine ⟨_, rfl, hK.out _ _ ⟨hHeld.1.keep fq (by first | exact N2.out | exact fun h => N2.out h.1), hHeld.2.1.keep fq (by first | exact NP.out | exact fun h => NP.out h.1), hHeld.2.2.1.keep fq (by first | exact N5.out | exact fun h => N5.out h.1), hHeld.2.2.2.trans fq (fun i h => by first | exact .inl h | exact .inl h.1)⟩ (fun hHeld => ?_)⟩
    clear hK K
    refine norm_ (a' := ?_) ?_ ?_
    rotate_left
    · simp only [Act.put, List.setIfInBounds_toArray, List.set_cons_zero, List.set_cons_succ]; rfl
    refine one_ (i := 11) (N := some 8) #[true, true, true, true, true, true, true, true, true, true, true, true, false] rfl rfl (by kernel_rfl) (by decide) (fun K hK => ?_)
    refine step_alloc (N := some 8) rfl rfl 32 rfl _ [.int .i64 0] zeroErrno rfl ?_; intro g8 wp hg8' fp bp; have hg8 := Nat.le_trans hHeld.2.2.2.size hg8'; refine hK.out _ _ ⟨hHeld.1.no fp, hHeld.2.1.no fp, hHeld.2.2.1.no fp, hHeld.2.2.2.no fp⟩ (fun hHeld => ?_)
    clear hK K
    refine norm_ (a' := ?_) ?_ ?_
    rotate_left
    · simp only [Act.put, List.setIfInBounds_toArray, List.set_cons_zero, List.set_cons_succ]; rfl
    refine last_ (i := 12) (N := none) #[true, true, true, true, true, true, true, true, true, true, true, true, true] rfl rfl (by kernel_rfl) (by decide) (fun K hK => ?_)
    refine step_storeN (N := none) rfl rfl 32 (.tmp 8) (.tmp 48) rfl g8 0 (.int .i64 r.2) rfl rfl rfl 32 _ (by first | exact bp | exact bp.keep fq (fun h => h.2 rfl)) (by show 0 < 1; decide) sizeErrno ?_; intro ws fs bs'; refine hK.out _ _ ?_
    clear hK K
    refine norm_ (a' := ?_) ?_ ?_
    rotate_left
    · simp only [Act.put, List.setIfInBounds_toArray, List.set_cons_zero, List.set_cons_succ]; rfl
    refine done_ (by kernel_rfl) ?_
    refine join_fin g8 ?_ ?_; exact ⟨hg8, (by first | exact dq.one fs (fun h => h.2 rfl) | exact (dq.less_new fp hg8' bp.lt).one fs (fun h => h.2 rfl)), bs', hHeld.2.2.2.one fs (.inr hg8)⟩; (simp only [putAll, Act.put, List.setIfInBounds_toArray, List.set_cons_zero, List.set_cons_succ]; rfl)
  · refine step_alloc (N := some 8) rfl rfl 32 rfl _ [.int .i64 0] zeroErrno rfl ?_; intro g8 wp hg8' fp bp; have hg8 := Nat.le_trans hHeld.2.2.2.size hg8'; refine hK.out _ _ ⟨hHeld.1.no fp, hHeld.2.1.no fp, hHeld.2.2.1.no fp, hHeld.2.2.2.no fp⟩ (fun hHeld => ?_)
    clear hK K
    refine norm_ (a' := ?_) ?_ ?_
    rotate_left
    · simp only [Act.put, List.setIfInBounds_toArray, List.set_cons_zero, List.set_cons_succ]; rfl
    refine one_ (i := 10) (N := some 48) #[true, true, true, true, true, true, true, true, true, true, true, true, false] rfl rfl (by kernel_rfl) (by decide) (fun K hK => ?_)
    refine goes_ Try.func20 (by kernel_rfl) rfl #[.pointer (some ⟨b, 0, none⟩), .int .i64 (q : Int), .string ⟨#[]⟩] (by rfl) rfl rfl (by simp only [List.map_toArray, List.map_cons, List.map_nil]; rfl) ?_; (first | refine (CW.out _ _ (HD.out.less_new fp hg8' bp.lt)).mono ?_ | refine (CW.out _ _ HD.out).mono ?_); rintro e wq ⟨rfl, dq, fq⟩; refine ⟨_, rfl, hK.out _ _ ⟨hHeld.1.keep fq (by first | exact N2.out | exact fun h => N2.out h.1), hHeld.2.1.keep fq (by first | exact NP.out | exact fun h => NP.out h.1), hHeld.2.2.1.keep fq (by first | exact N5.out | exact fun h => N5.out h.1), hHeld.2.2.2.trans fq (fun i h => by first | exact .inl h | exact .inl h.1)⟩ (fun hHeld => ?_)⟩
    clear hK K
    refine norm_ (a' := ?_) ?_ ?_
    rotate_left
    · simp only [Act.put, List.setIfInBounds_toArray, List.set_cons_zero, List.set_cons_succ]; rfl
    refine last_ (i := 12) (N := none) #[true, true, true, true, true, true, true, true, true, true, true, true, true] rfl rfl (by kernel_rfl) (by decide) (fun K hK => ?_)
    refine step_storeN (N := none) rfl rfl 32 (.tmp 8) (.tmp 48) rfl g8 0 (.int .i64 r.2) rfl rfl rfl 32 _ (by first | exact bp | exact bp.keep fq (fun h => h.2 rfl)) (by show 0 < 1; decide) sizeErrno ?_; intro ws fs bs'; refine hK.out _ _ ?_
    clear hK K
    refine norm_ (a' := ?_) ?_ ?_
    rotate_left
    · simp only [Act.put, List.setIfInBounds_toArray, List.set_cons_zero, List.set_cons_succ]; rfl
    refine done_ (by kernel_rfl) ?_
    refine join_fin g8 ?_ ?_; exact ⟨hg8, (by first | exact dq.one fs (fun h => h.2 rfl) | exact (dq.less_new fp hg8' bp.lt).one fs (fun h => h.2 rfl)), bs', hHeld.2.2.2.one fs (.inr hg8)⟩; (simp only [putAll, Act.put, List.setIfInBounds_toArray, List.set_cons_zero, List.set_cons_succ]; rfl)
end Go.Proofs.Ytaohfmmapammcaa.Pl

/- plate's Write: its loop over the parts. Conditions: sizes are bounded, as written out. -/
set_option linter.unusedSimpArgs false
set_option linter.unusedVariables false
namespace Go.Proofs.Ytaohfmmapammcaa.Pl
open Go Go.RowKit Go.Proofs.YtaohfmmapammcaaW.PrintWords Go.Proofs.YtaohfmmapammcaaW.PrintLast Go.Proofs.Ytaohfmmapammcaa.Sha Go.Proofs.Ytaohfmmapammcaa.Dig Go.Proofs.Ytaohfmmapammcaa.Ev Go.Proofs.Ytaohfmmapammcaa.Reg Go.Proofs.Ytaohfmmapammcaa.Ch

abbrev PutN : Nat := 77
section
variable {P : Program} {DS : List Deferred}
theorem ex_ud {A : Array Value} {mk : (Nat → Value) → Array Value} {p : Prop} (hp : p) (h : mk (fun i => A.getD i undef) = A) : ∃ u : Nat → Value, p ∧ ({ tmps := A, defers := DS } : Act) = { tmps := mk u, defers := DS } :=
  ⟨_, hp, by rw [h]⟩
theorem K_ud {K : Act → World → Prop} {W : World} {A : Array Value} {mk : (Nat → Value) → Array Value} (h : ∀ u : Nat → Value, K { tmps := mk u, defers := DS } W) (he : mk (fun i => A.getD i undef) = A) : K { tmps := A, defers := DS } W := by
  have := h (fun i => A.getD i undef)
  rwa [he] at this
theorem wp_ud {c : Code} {Q : Exit → Act → World → Prop} {W : World} {A : Array Value} {mk : (Nat → Value) → Array Value} (h : ∀ u : Nat → Value, c.wp P Q { tmps := mk u, defers := DS } W) (he : mk (fun i => A.getD i undef) = A) :
    c.wp P Q { tmps := A, defers := DS } W := by
  have := h (fun i => A.getD i undef)
  rwa [he] at this
end

/-- What the loop holds between two rounds, j parts still to be written. -/
structure LoopI (W : World) (S : Nat → Prop) (b m gp g2 g5 g8 g10 g12 side j c : Nat) (p : PlateS) (v : Value) (ps : List B) (st : DiskS × Int) (w' : World) : Prop where
  disk : ∃ Sj : Nat → Prop, Dk w' Sj b m st.1 ∧ (∀ k, Sj k → S k) ∧ ¬ Sj g12
  err : Blk w' g8 32 [.int .i64 st.2]
  i12 : Blk w' g12 3 [.int .i64 ((j : Int) - 1)]
  p2 : Blk w' g2 37 [.pointer (some ⟨gp, 0, none⟩)]
  s5 : Blk w' g5 3 [.int .i64 (side : Int)]
  v10 : Blk w' g10 22 [v]
  pl : Blk w' gp 123 (plL b p)
  row : w'.ownsRow 0 9 1 v ps.length (ps.map fun x => Value.string (bs x))
  bd : Bd st.1 c
/-- The loop's captured places are no part of the disk. -/
structure Off (S : Nat → Prop) (gp g2 g5 g8 g10 : Nat) (v : Value) : Prop where
  p : ¬ S gp
  n2 : ¬ S g2
  n5 : ¬ S g5
  n8 : ¬ S g8
  n10 : ¬ S g10
  row : ∀ k, v.ownBlock = some k → ¬ S k
/-- Places that are not one another. -/
structure Ne8 (gp g2 g5 g8 g10 : Nat) (v : Value) : Prop where
  p : gp ≠ g8
  n2 : g2 ≠ g8
  n5 : g5 ≠ g8
  n10 : g10 ≠ g8
  row : ∀ k, v.ownBlock = some k → k ≠ g8
theorem LoopI.calls {W w' w1 : World} {S Sj : Nat → Prop} {b m gp g2 g5 g8 g10 g12 side j c c' : Nat} {p : PlateS} {v : Value} {ps : List B} {st st' : DiskS × Int} (h : LoopI W S b m gp g2 g5 g8 g10 g12 side j c p v ps st w') (o : Off S gp g2 g5 g8 g10 v) (q : Ne8 gp g2 g5 g8 g10 v) (hs : ∀ k, Sj k → S k) (h12 : ¬ Sj g12) (h8 : g12 ≠ g8)
    (hd : Dk w1 Sj b m st'.1) (he : Blk w1 g8 32 [.int .i64 st'.2]) (f : Fr (More Sj g8) w' w1) (hb : Bd st'.1 c') : LoopI W S b m gp g2 g5 g8 g10 g12 side j c' p v ps st' w1 :=
  ⟨⟨Sj, hd, hs, h12⟩, he, h.i12.keep f (fun hh => hh.elim h12 h8), h.p2.keep f (fun hh => hh.elim (fun e => o.n2 (hs _ e)) q.n2), h.s5.keep f (fun hh => hh.elim (fun e => o.n5 (hs _ e)) q.n5), h.v10.keep f (fun hh => hh.elim (fun e => o.n10 (hs _ e)) q.n10), h.pl.keep f (fun hh => hh.elim (fun e => o.p (hs _ e)) q.p),
    own_keep h.row f (fun k hk hh => hh.elim (fun e => o.row k hk (hs _ e)) (q.row k hk)), hb⟩
theorem LoopI.caps {W w' : World} {S : Nat → Prop} {b m gp g2 g5 g8 g10 g12 side i c : Nat} {p : PlateS} {v : Value} {ps : List B} {st : DiskS × Int} (h : LoopI W S b m gp g2 g5 g8 g10 g12 side (i + 1) c p v ps st w') : Caps w' g2 g5 g12 g10 gp b side i p v ps :=
  ⟨h.p2, h.s5, by have := h.i12; rw [show (((i + 1 : Nat) : Int) - 1) = (i : Int) by omega] at this; exact this, h.v10, h.pl, h.row⟩
/-- A box of its own for the next round. -/
theorem LoopI.next {W w' wa wb : World} {S : Nat → Prop} {b m gp g2 g5 g8 g10 g12 g' side i c : Nat} {p : PlateS} {v : Value} {ps : List B} {st : DiskS × Int} (h : LoopI W S b m gp g2 g5 g8 g10 g12 side (i + 1) c p v ps st w')
    (fa : Fr No w' wa) (hg : w'.heap.size ≤ g') (hga : g' < wa.heap.size) (f : Fr (One g') wa wb) (hb : Blk wb g' 3 [.int .i64 ((i : Int) - 1)]) : LoopI W S b m gp g2 g5 g8 g10 g' side i c p v ps st wb := by
  obtain ⟨Sj, hd, hs, _⟩ := h.disk
  have e8 := h.err.lt
  have e2 := h.p2.lt
  have e5 := h.s5.lt
  have e10 := h.v10.lt
  have ep := h.pl.lt
  refine ⟨⟨Less Sj g', (hd.less_new fa hg hga).one f (fun hh => hh.2 rfl), fun k hk => hs k hk.1, fun hh => hh.2 rfl⟩, (h.err.no fa).one f (by omega), hb, (h.p2.no fa).one f (by omega), (h.s5.no fa).one f (by omega), (h.v10.no fa).one f (by omega), (h.pl.no fa).one f (by omega), own_keep (own_no h.row fa) f (fun k hk e => ?_), h.bd⟩
  obtain ⟨cells, hc⟩ := own_typed h.row k hk
  have := (Array.getElem?_eq_some_iff.1 hc).1
  have e : k = g' := e
  omega

set_option maxHeartbeats 8000000 in
set_option maxRecDepth 100000 in
theorem pw_loop (DS : List Deferred) (S : Nat → Prop) (b m gp g2 g5 g8 g10 g0 q side k c : Nat) (n1 : Int) (s t7 : B) (p : PlateS) (v : Value) (ps : List B) (st0 : DiskS × Int) (W : World) (u : Nat → Value) (hq : q = side * p.half) (hs : side ≤ 1) (hh : p.half ≤ 4096) (hk : k = ps.length) (hk1 : k ≤ 4096) (hps : ∀ i y, ps[i]? = some y → y = pieceL 32 t7 i)
    (o : Off S gp g2 g5 g8 g10 v) (ne : Ne8 gp g2 g5 g8 g10 v) (h0 : LoopI W S b m gp g2 g5 g8 g10 g0 side k c p v ps st0 W) (h08 : g0 ≠ g8) (hc : c ≤ 1048576) (hlt : ∀ g, g = gp ∨ g = g2 ∨ g = g5 ∨ g = g8 ∨ g = g10 ∨ v.ownBlock = some g → g < W.heap.size ∧ g ≠ g0) (Q : Exit → Act → World → Prop)
    (hQ : ∀ (u : Nat → Value) g12 ws, LoopI W S b m gp g2 g5 g8 g10 g12 side 0 (c + 4 * k) p v ps (partsD (q : Int) t7 k k st0) ws → Fr (fun x => S x ∨ x = g8 ∨ x = g0) W ws → Q .normal { tmps := List.toArray (.pointer (some ⟨gp, 0, none⟩) :: .string (bs s) :: .pointer (some ⟨g2, 0, none⟩) :: u 3 :: u 4 :: .pointer (some ⟨g5, 0, none⟩) :: .int .i64 n1 :: .string (bs t7) :: .pointer (some ⟨g8, 0, none⟩) :: .func (.func PutN) #[] #[.pointer (some ⟨g8, 0, none⟩)] :: .pointer (some ⟨g10, 0, none⟩) :: u 11 :: .pointer (some ⟨g12, 0, none⟩) :: u 13 :: u 14 :: u 15 :: u 16 :: u 17 :: u 18 :: u 19 :: u 20 :: u 21 :: u 22 :: u 23 :: u 24 :: u 25 :: u 26 :: u 27 :: u 28 :: u 29 :: u 30 :: u 31 :: u 32 :: u 33 :: u 34 :: u 35 :: u 36 :: u 37 :: u 38 :: u 39 :: u 40 :: u 41 :: u 42 :: u 43 :: u 44 :: u 45 :: u 46 :: u 47 :: u 48 :: u 49 :: u 50 :: u 51 :: u 52 :: u 53 :: u 54 :: u 55 :: u 56 :: u 57 :: u 58 :: u 59 :: u 60 :: u 61 :: u 62 :: u 63 :: u 64 :: u 65 :: u 66 :: u 67 :: u 68 :: u 69 :: u 70 :: u 71 :: u 72 :: u 73 :: u 74 :: u 75 :: u 76 :: u 77 :: u 78 :: u 79 :: u 80 :: u 81 :: u 82 :: u 83 :: u 84 :: u 85 :: u 86 :: u 87 :: u 88 :: u 89 :: u 90 :: u 91 :: u 92 :: u 93 :: u 94 :: u 95 :: u 96 :: u 97 :: u 98 :: u 99 :: u 100 :: u 101 :: u 102 :: u 103 :: u 104 :: u 105 :: u 106 :: u 107 :: u 108 :: u 109 :: u 110 :: u 111 :: u 112 :: u 113 :: u 114 :: u 115 :: u 116 :: u 117 :: u 118 :: []), defers := DS } ws) :
    Code.wp Try.prog (sub [1,1,1,1,1,1,1,1,1,0,1] bodyPW) Q { tmps := List.toArray (.pointer (some ⟨gp, 0, none⟩) :: .string (bs s) :: .pointer (some ⟨g2, 0, none⟩) :: u 3 :: u 4 :: .pointer (some ⟨g5, 0, none⟩) :: .int .i64 n1 :: .string (bs t7) :: .pointer (some ⟨g8, 0, none⟩) :: .func (.func PutN) #[] #[.pointer (some ⟨g8, 0, none⟩)] :: .pointer (some ⟨g10, 0, none⟩) :: u 11 :: .pointer (some ⟨g0, 0, none⟩) :: u 13 :: u 14 :: u 15 :: u 16 :: u 17 :: u 18 :: u 19 :: u 20 :: u 21 :: u 22 :: u 23 :: u 24 :: u 25 :: u 26 :: u 27 :: u 28 :: u 29 :: u 30 :: u 31 :: u 32 :: u 33 :: u 34 :: u 35 :: u 36 :: u 37 :: u 38 :: u 39 :: u 40 :: u 41 :: u 42 :: u 43 :: u 44 :: u 45 :: u 46 :: u 47 :: u 48 :: u 49 :: u 50 :: u 51 :: u 52 :: u 53 :: u 54 :: u 55 :: u 56 :: u 57 :: u 58 :: u 59 :: u 60 :: u 61 :: u 62 :: u 63 :: u 64 :: u 65 :: u 66 :: u 67 :: u 68 :: u 69 :: u 70 :: u 71 :: u 72 :: u 73 :: u 74 :: u 75 :: u 76 :: u 77 :: u 78 :: u 79 :: u 80 :: u 81 :: u 82 :: u 83 :: u 84 :: u 85 :: u 86 :: u 87 :: u 88 :: u 89 :: u 90 :: u 91 :: u 92 :: u 93 :: u 94 :: u 95 :: u 96 :: u 97 :: u 98 :: u 99 :: u 100 :: u 101 :: u 102 :: u 103 :: u 104 :: u 105 :: u 106 :: u 107 :: u 108 :: u 109 :: u 110 :: u 111 :: u 112 :: u 113 :: u 114 :: u 115 :: u 116 :: u 117 :: u 118 :: []), defers := DS } W := by
  conv => arg 2; whnf
  have HQ := Kp.mk hQ
  have HO := Kp.mk o
  have HNE := Kp.mk ne
  have HPS := Kp.mk hps
  have HLT := Kp.mk hlt
  have HK0 := Kp.mk hk
  have HQQ := Kp.mk hq
  clear hQ o ne hps hlt hk hq
  refine wp_block ?_
  refine wp_loop_ghost_k (fun n a' w' => ∃ (j g12 : Nat) (st : DiskS × Int) (u : Nat → Value), (n = j ∧ j ≤ k ∧ LoopI W S b m gp g2 g5 g8 g10 g12 side j (c + 4 * (k - j)) p v ps st w' ∧ partsD (q : Int) t7 k j st = partsD (q : Int) t7 k k st0 ∧ (g12 = g0 ∨ W.heap.size ≤ g12) ∧ Fr (fun x => S x ∨ x = g8 ∨ x = g0) W w') ∧ a' = { tmps := List.toArray (.pointer (some ⟨gp, 0, none⟩) :: .string (bs s) :: .pointer (some ⟨g2, 0, none⟩) :: u 3 :: u 4 :: .pointer (some ⟨g5, 0, none⟩) :: .int .i64 n1 :: .string (bs t7) :: .pointer (some ⟨g8, 0, none⟩) :: .func (.func PutN) #[] #[.pointer (some ⟨g8, 0, none⟩)] :: .pointer (some ⟨g10, 0, none⟩) :: u 11 :: .pointer (some ⟨g12, 0, none⟩) :: u 13 :: u 14 :: u 15 :: u 16 :: u 17 :: u 18 :: u 19 :: u 20 :: u 21 :: u 22 :: u 23 :: u 24 :: u 25 :: u 26 :: u 27 :: u 28 :: u 29 :: u 30 :: u 31 :: u 32 :: u 33 :: u 34 :: u 35 :: u 36 :: u 37 :: u 38 :: u 39 :: u 40 :: u 41 :: u 42 :: u 43 :: u 44 :: u 45 :: u 46 :: u 47 :: u 48 :: u 49 :: u 50 :: u 51 :: u 52 :: u 53 :: u 54 :: u 55 :: u 56 :: u 57 :: u 58 :: u 59 :: u 60 :: u 61 :: u 62 :: u 63 :: u 64 :: u 65 :: u 66 :: u 67 :: u 68 :: u 69 :: u 70 :: u 71 :: u 72 :: u 73 :: u 74 :: u 75 :: u 76 :: u 77 :: u 78 :: u 79 :: u 80 :: u 81 :: u 82 :: u 83 :: u 84 :: u 85 :: u 86 :: u 87 :: u 88 :: u 89 :: u 90 :: u 91 :: u 92 :: u 93 :: u 94 :: u 95 :: u 96 :: u 97 :: u 98 :: u 99 :: u 100 :: u 101 :: u 102 :: u 103 :: u 104 :: u 105 :: u 106 :: u 107 :: u 108 :: u 109 :: u 110 :: u 111 :: u 112 :: u 113 :: u 114 :: u 115 :: u 116 :: u 117 :: u 118 :: []), defers := DS }) k
    ⟨k, g0, st0, u, ⟨rfl, Nat.le_refl _, by rw [Nat.sub_self]; exact h0, rfl, .inl rfl, Fr.refl _ _⟩, rfl⟩ ?_
  have hWs := h0.err.lt
  clear h0
  rintro n a' w' ⟨j, g12, st, u, ⟨hn, hj, LI, hpd, hg12, f⟩, rfl⟩ J K hJ hK
  have HJ := Kp.mk hJ
  have HK := Kp.mk hK
  have F := Kp.mk f
  have HN := Kp.mk hn
  have HPD := Kp.mk hpd
  have HLI := Kp.mk LI
  have l12 := LI.i12.at_ 0 rfl
  have l2 := LI.p2.at_ 0 rfl
  have l10 := LI.v10.at_ 0 rfl
  have k0 := LI.pl.at_ 0 rfl
  have h8 : g12 ≠ g8 := by
    obtain ⟨h1, h2⟩ := HLT.out g8 (.inr (.inr (.inr (.inl rfl))))
    rcases hg12 with e | e
    · rw [e]; exact h08
    · omega
  obtain ⟨Sj, hdk, hsub, hn12⟩ := LI.disk
  have HSUB := Kp.mk hsub
  have HN12 := Kp.mk hn12
  obtain ⟨A, cp, hv⟩ := own_slice LI.row
  rw [hv, ← HK0.out] at l10
  have HDK := Kp.mk hdk
  clear hJ hK f hn hpd LI hg12 hsub hn12 hdk hv
  cases j with
  | zero =>
    rw [show (((0 : Nat) : Int) - 1) = -1 by omega] at l12
    clear l2 l10 k0
    go_wp2_with fail
    have h := HLI.out
    have hst : st = partsD (q : Int) t7 k k st0 := HPD.out
    rw [hst] at h
    exact K_ud (fun u => HQ.out u g12 _ h F.out) rfl
  | succ i =>
    have hii : (((i + 1 : Nat) : Int) - 1) = (i : Int) := by omega
    rw [hii] at l12
    have hi0 : (0 : Int) ≤ (i : Int) := by omega
    have hi1 : (i : Int) ≤ 4096 := by omega
    obtain ⟨y, hy⟩ : ∃ y, ps[i]? = some y := ⟨_, List.getElem?_eq_getElem (by rw [← HK0.out]; omega)⟩
    have HY : Kp (ps[i]? = some (pieceL 32 t7 i)) := ⟨by rw [hy, HPS.out i y hy]⟩
    clear hy
    by_cases hiz : i = 0
    · have heb : ((i : Int) == 0) = true := by simp [hiz]
      have HZ := Kp.mk hiz
      clear hiz
      by_cases h1k : 1 < k
      · have h1z : (1 : Int) < (k : Int) := by omega
        have CF := Kp.mk (put_flush HDK.out (HLI.out.bd.up (by omega)) (by have := HLI.out.bd.wait; omega) HLI.out.err (fun hh => HO.out.n8 (HSUB.out _ hh)))
        have HST : Kp (partD (q : Int) t7 k i st = putD (putD st flushD) (fun D => writeD D ((q : Int) + (i : Int)) (pieceL 32 t7 i))) := ⟨by unfold partD; rw [if_pos ⟨HZ.out, h1k⟩]⟩
        go_wp2_with (first
          | (go_at_call 77; (with_reducible refine CF.out.mono ?_); rintro e w1 ⟨rfl, d1, e1, f1⟩; have LI1 := Kp.mk (HLI.out.calls (st' := putD st flushD) HO.out HNE.out HSUB.out HN12.out h8 d1 e1 f1 (Bd.putD HLI.out.bd Bd.flush)); have CP := Kp.mk (put_part d1 (LI1.out.bd.up (by omega)) (by have := LI1.out.bd.wait; show (putD st flushD).1.wait.length ≤ _; omega) e1 (fun hh => HO.out.n8 (HSUB.out _ hh)) LI1.out.caps hs hh (by omega) (pieceL 32 t7 i) HY.out (by have := pieceL32 t7 i; omega)))
          | (go_at_call 77; (with_reducible refine CP.out.mono ?_); rintro e w2 ⟨rfl, d2, e2, f2⟩; rw [← HQQ.out] at d2 e2; have LI2 := Kp.mk (LI1.out.calls (st' := putD (putD st flushD) (fun D => writeD D ((q : Int) + (i : Int)) (pieceL 32 t7 i))) HO.out HNE.out HSUB.out HN12.out h8 d2 e2 f2 (Bd.putD LI1.out.bd (fun h => h.write _ _))); have l122 := LI2.out.i12.at_ 0 rfl; rw [hii] at l122)
          | ((with_reducible refine gate_dst (N := 12) rfl ?_); refine ev_alloc rfl 3 rfl _ [.int .i64 0] zeroInt rfl ?_; intro g' w3 hg' f3 b3)
          | ((with_reducible refine gate_store (t := 3) (p := 12) rfl ?_); refine ev_store rfl 3 _ _ rfl g' 0 (.int .i64 ((i : Int) - 1)) rfl rfl rfl 3 _ b4 (by show 0 < 1; decide) sizeInt ?_; intro w5 f5 b5)
          | ((with_reducible refine gate_store (t := 3) (p := 12) rfl ?_); refine ev_store rfl 3 _ _ rfl g' 0 (.int .i64 (i : Int)) rfl rfl rfl 3 _ b3 (by show 0 < 1; decide) sizeInt ?_; intro w4 f4 b4; have l14 := b4.at_ 0 rfl))
        have hsz : w'.heap.size ≤ w2.heap.size := Nat.le_trans f1.size f2.size
        have hg'' : W.heap.size ≤ g' := Nat.le_trans (Nat.le_trans F.out.size hsz) hg'
        have f12 : Fr (More Sj g8) w' w2 := (f1.trans f2 (fun x hx => .inl hx))
        refine HK.out _ _ (Handed.intro i (by have := HN.out; omega) (HJ.out _ _ _ ⟨i, g', partD (q : Int) t7 k i st, ex_ud ⟨rfl, by omega, ?_, HPD.out, .inr hg'', ?_⟩ rfl⟩))
        · have h := LI2.out.next f3 hg' b3.lt (f4.one f5 (.inl rfl)) b5
          rw [HST.out]
          exact ⟨h.disk, h.err, h.i12, h.p2, h.s5, h.v10, h.pl, h.row, h.bd.up (by omega)⟩
        · exact (((F.out.trans f12 (fun x hx => .inl (hx.elim (fun e => .inl (HSUB.out x e)) (fun e => .inr (.inl e))))).no f3).one f4 (.inr hg'')).one f5 (.inr hg'')
      · have h1z : ¬ (1 : Int) < (k : Int) := by omega
        have CP := Kp.mk (put_part HDK.out (HLI.out.bd.up (by omega)) (by have := HLI.out.bd.wait; omega) HLI.out.err (fun hh => HO.out.n8 (HSUB.out _ hh)) HLI.out.caps hs hh (by omega) (pieceL 32 t7 i) HY.out (by have := pieceL32 t7 i; omega))
        have HST : Kp (partD (q : Int) t7 k i st = putD st (fun D => writeD D ((q : Int) + (i : Int)) (pieceL 32 t7 i))) := ⟨by unfold partD; rw [if_neg (fun h => h1k h.2)]⟩
        go_wp2_with (first
          | (go_at_call 77; (with_reducible refine CP.out.mono ?_); rintro e w2 ⟨rfl, d2, e2, f2⟩; rw [← HQQ.out] at d2 e2; have LI2 := Kp.mk (HLI.out.calls (st' := putD st (fun D => writeD D ((q : Int) + (i : Int)) (pieceL 32 t7 i))) HO.out HNE.out HSUB.out HN12.out h8 d2 e2 f2 (Bd.putD HLI.out.bd (fun h => h.write _ _))); have l122 := LI2.out.i12.at_ 0 rfl; rw [hii] at l122)
          | ((with_reducible refine gate_dst (N := 12) rfl ?_); refine ev_alloc rfl 3 rfl _ [.int .i64 0] zeroInt rfl ?_; intro g' w3 hg' f3 b3)
          | ((with_reducible refine gate_store (t := 3) (p := 12) rfl ?_); refine ev_store rfl 3 _ _ rfl g' 0 (.int .i64 ((i : Int) - 1)) rfl rfl rfl 3 _ b4 (by show 0 < 1; decide) sizeInt ?_; intro w5 f5 b5)
          | ((with_reducible refine gate_store (t := 3) (p := 12) rfl ?_); refine ev_store rfl 3 _ _ rfl g' 0 (.int .i64 (i : Int)) rfl rfl rfl 3 _ b3 (by show 0 < 1; decide) sizeInt ?_; intro w4 f4 b4; have l14 := b4.at_ 0 rfl))
        have hsz : w'.heap.size ≤ w2.heap.size := f2.size
        have hg'' : W.heap.size ≤ g' := Nat.le_trans (Nat.le_trans F.out.size hsz) hg'
        have f12 : Fr (More Sj g8) w' w2 := f2
        refine HK.out _ _ (Handed.intro i (by have := HN.out; omega) (HJ.out _ _ _ ⟨i, g', partD (q : Int) t7 k i st, ex_ud ⟨rfl, by omega, ?_, HPD.out, .inr hg'', ?_⟩ rfl⟩))
        · have h := LI2.out.next f3 hg' b3.lt (f4.one f5 (.inl rfl)) b5
          rw [HST.out]
          exact ⟨h.disk, h.err, h.i12, h.p2, h.s5, h.v10, h.pl, h.row, h.bd.up (by omega)⟩
        · exact (((F.out.trans f12 (fun x hx => .inl (hx.elim (fun e => .inl (HSUB.out x e)) (fun e => .inr (.inl e))))).no f3).one f4 (.inr hg'')).one f5 (.inr hg'')
    · have heb : ((i : Int) == 0) = false := by simp; omega
      have HZ := Kp.mk hiz
      clear hiz
      have CP := Kp.mk (put_part HDK.out (HLI.out.bd.up (by omega)) (by have := HLI.out.bd.wait; omega) HLI.out.err (fun hh => HO.out.n8 (HSUB.out _ hh)) HLI.out.caps hs hh (by omega) (pieceL 32 t7 i) HY.out (by have := pieceL32 t7 i; omega))
      have HST : Kp (partD (q : Int) t7 k i st = putD st (fun D => writeD D ((q : Int) + (i : Int)) (pieceL 32 t7 i))) := ⟨by unfold partD; rw [if_neg (fun h => HZ.out h.1)]⟩
      go_wp2_with (first
        | (go_at_call 77; (with_reducible refine CP.out.mono ?_); rintro e w2 ⟨rfl, d2, e2, f2⟩; rw [← HQQ.out] at d2 e2; have LI2 := Kp.mk (HLI.out.calls (st' := putD st (fun D => writeD D ((q : Int) + (i : Int)) (pieceL 32 t7 i))) HO.out HNE.out HSUB.out HN12.out h8 d2 e2 f2 (Bd.putD HLI.out.bd (fun h => h.write _ _))); have l122 := LI2.out.i12.at_ 0 rfl; rw [hii] at l122)
        | ((with_reducible refine gate_dst (N := 12) rfl ?_); refine ev_alloc rfl 3 rfl _ [.int .i64 0] zeroInt rfl ?_; intro g' w3 hg' f3 b3)
        | ((with_reducible refine gate_store (t := 3) (p := 12) rfl ?_); refine ev_store rfl 3 _ _ rfl g' 0 (.int .i64 ((i : Int) - 1)) rfl rfl rfl 3 _ b4 (by show 0 < 1; decide) sizeInt ?_; intro w5 f5 b5)
        | ((with_reducible refine gate_store (t := 3) (p := 12) rfl ?_); refine ev_store rfl 3 _ _ rfl g' 0 (.int .i64 (i : Int)) rfl rfl rfl 3 _ b3 (by show 0 < 1; decide) sizeInt ?_; intro w4 f4 b4; have l14 := b4.at_ 0 rfl))
      have hsz : w'.heap.size ≤ w2.heap.size := f2.size
      have hg'' : W.heap.size ≤ g' := Nat.le_trans (Nat.le_trans F.out.size hsz) hg'
      have f12 : Fr (More Sj g8) w' w2 := f2
      refine HK.out _ _ (Handed.intro i (by have := HN.out; omega) (HJ.out _ _ _ ⟨i, g', partD (q : Int) t7 k i st, ex_ud ⟨rfl, by omega, ?_, HPD.out, .inr hg'', ?_⟩ rfl⟩))
      · have h := LI2.out.next f3 hg' b3.lt (f4.one f5 (.inl rfl)) b5
        rw [HST.out]
        exact ⟨h.disk, h.err, h.i12, h.p2, h.s5, h.v10, h.pl, h.row, h.bd.up (by omega)⟩
      · exact (((F.out.trans f12 (fun x hx => .inl (hx.elim (fun e => .inl (HSUB.out x e)) (fun e => .inr (.inl e))))).no f3).one f4 (.inr hg'')).one f5 (.inr hg'')
end Go.Proofs.Ytaohfmmapammcaa.Pl

/- plate's Write: its two endings. No conditions beside those written out. -/
set_option linter.unusedSimpArgs false
set_option linter.unusedVariables false
namespace Go.Proofs.Ytaohfmmapammcaa.Pl
open Go Go.RowKit Go.Proofs.YtaohfmmapammcaaW.PrintWords Go.Proofs.YtaohfmmapammcaaW.PrintLast Go.Proofs.Ytaohfmmapammcaa.Sha Go.Proofs.Ytaohfmmapammcaa.Dig Go.Proofs.Ytaohfmmapammcaa.Ev Go.Proofs.Ytaohfmmapammcaa.Reg Go.Proofs.Ytaohfmmapammcaa.Ch
/-- What a plate is where its writing was not done. -/
def lostP (p : PlateS) : PlateS := ⟨p.half, p.side, 0, []⟩

set_option maxHeartbeats 8000000 in
set_option maxRecDepth 100000 in
theorem pw_reg24 (DS : List Deferred) (b gp g2 g5 g8 : Nat) (n1 : Int) (s : B) (p : PlateS) (W : World) (u : Nat → Value) (B2 : Blk W g2 37 [.pointer (some ⟨gp, 0, none⟩)]) (BP : Blk W gp 123 (plL b p)) (hne : g2 ≠ gp) (Q : Exit → Act → World → Prop)
    (hQ : ∀ (u : Nat → Value) ws, Fr (One gp) W ws → Blk ws gp 123 (plL b (lostP p)) → Q .normal { tmps := List.toArray (.pointer (some ⟨gp, 0, none⟩) :: .string (bs s) :: .pointer (some ⟨g2, 0, none⟩) :: u 3 :: u 4 :: .pointer (some ⟨g5, 0, none⟩) :: .int .i64 n1 :: u 7 :: .pointer (some ⟨g8, 0, none⟩) :: u 9 :: u 10 :: u 11 :: u 12 :: u 13 :: u 14 :: u 15 :: u 16 :: u 17 :: u 18 :: u 19 :: u 20 :: u 21 :: u 22 :: u 23 :: u 24 :: u 25 :: u 26 :: u 27 :: u 28 :: u 29 :: u 30 :: u 31 :: u 32 :: u 33 :: u 34 :: u 35 :: u 36 :: u 37 :: u 38 :: u 39 :: u 40 :: u 41 :: u 42 :: u 43 :: u 44 :: u 45 :: u 46 :: u 47 :: u 48 :: u 49 :: u 50 :: u 51 :: u 52 :: u 53 :: u 54 :: u 55 :: u 56 :: u 57 :: u 58 :: u 59 :: u 60 :: u 61 :: u 62 :: u 63 :: u 64 :: u 65 :: u 66 :: u 67 :: u 68 :: u 69 :: u 70 :: u 71 :: u 72 :: u 73 :: u 74 :: u 75 :: u 76 :: u 77 :: u 78 :: u 79 :: u 80 :: u 81 :: u 82 :: u 83 :: u 84 :: u 85 :: u 86 :: u 87 :: u 88 :: u 89 :: u 90 :: u 91 :: u 92 :: u 93 :: u 94 :: u 95 :: u 96 :: u 97 :: u 98 :: u 99 :: u 100 :: u 101 :: u 102 :: u 103 :: u 104 :: u 105 :: u 106 :: u 107 :: u 108 :: u 109 :: u 110 :: u 111 :: u 112 :: u 113 :: u 114 :: u 115 :: u 116 :: u 117 :: u 118 :: []), defers := DS } ws) :
    Code.wp Try.prog (sub [1, 1, 1, 1, 1, 1, 1, 1, 1, 1, 1, 0, 1, 0, 0] bodyPW) Q { tmps := List.toArray (.pointer (some ⟨gp, 0, none⟩) :: .string (bs s) :: .pointer (some ⟨g2, 0, none⟩) :: u 3 :: u 4 :: .pointer (some ⟨g5, 0, none⟩) :: .int .i64 n1 :: u 7 :: .pointer (some ⟨g8, 0, none⟩) :: u 9 :: u 10 :: u 11 :: u 12 :: u 13 :: u 14 :: u 15 :: u 16 :: u 17 :: u 18 :: u 19 :: u 20 :: u 21 :: u 22 :: u 23 :: u 24 :: u 25 :: u 26 :: u 27 :: u 28 :: u 29 :: u 30 :: u 31 :: u 32 :: u 33 :: u 34 :: u 35 :: u 36 :: u 37 :: u 38 :: u 39 :: u 40 :: u 41 :: u 42 :: u 43 :: u 44 :: u 45 :: u 46 :: u 47 :: u 48 :: u 49 :: u 50 :: u 51 :: u 52 :: u 53 :: u 54 :: u 55 :: u 56 :: u 57 :: u 58 :: u 59 :: u 60 :: u 61 :: u 62 :: u 63 :: u 64 :: u 65 :: u 66 :: u 67 :: u 68 :: u 69 :: u 70 :: u 71 :: u 72 :: u 73 :: u 74 :: u 75 :: u 76 :: u 77 :: u 78 :: u 79 :: u 80 :: u 81 :: u 82 :: u 83 :: u 84 :: u 85 :: u 86 :: u 87 :: u 88 :: u 89 :: u 90 :: u 91 :: u 92 :: u 93 :: u 94 :: u 95 :: u 96 :: u 97 :: u 98 :: u 99 :: u 100 :: u 101 :: u 102 :: u 103 :: u 104 :: u 105 :: u 106 :: u 107 :: u 108 :: u 109 :: u 110 :: u 111 :: u 112 :: u 113 :: u 114 :: u 115 :: u 116 :: u 117 :: u 118 :: []), defers := DS } W := by
  conv => arg 2; whnf
  have fd := (Fr.refl No W).drew
  have HQ := Kp.mk hQ
  clear hQ
  refine region_join (τ := Unit) (fun (u : Nat → Value) t => [(100, u 100), (101, u 101), (102, u 102), (103, u 103), (104, u 104), (105, u 105)]) (fun _ ws => Fr (One gp) W ws ∧ Blk ws gp 123 (plL b (lostP p))) ?_ ?_
  rotate_left
  · rintro u' _ ws ⟨q1, q2⟩
    simp only [putAll, Act.put, List.setIfInBounds_toArray, List.set_cons_zero, List.set_cons_succ]
    exact K_ud (K := Q .normal) (fun u => HQ.out u ws q1 q2) rfl
  refine start_ (n := 8) (S := (fun w' => Blk w' g2 37 [.pointer (some ⟨gp, 0, none⟩)] ∧ Fr (One gp) W w')) (ds := []) #[false, false, false, false, false, false, false, false] (by kernel_rfl) rfl rfl ⟨B2.no fd, fd.mono (fun i h => h.elim)⟩ (fun hHeld => ?_)
  refine take_ (i := 0) (N := some 100) (v := ?_) (a' := ?_) #[true, false, false, false, false, false, false, false] rfl rfl (by kernel_rfl) (fun _ _ _ h => h.pan) (Or.inl ⟨by rfl, ?_⟩) hHeld ?_ ?_
  rotate_left
  · rintro w' ⟨s0, s1⟩; have c2 := s0.at_ 0 rfl; go_simp; with_reducible rfl
  rotate_left
  · simp only [Act.put, List.setIfInBounds_toArray, List.set_cons_zero, List.set_cons_succ]; rfl
  refine pure_ (i := 2) (N := some 102) (v := ?_) (a' := ?_) #[true, false, true, false, false, false, false, false] rfl rfl (by kernel_rfl) (fun _ _ _ h => h.pan) (Or.inl ⟨by rfl, ?_⟩) ?_ ?_
  rotate_left
  · intro w'; go_simp; with_reducible rfl
  rotate_left
  · simp only [Act.put, List.setIfInBounds_toArray, List.set_cons_zero, List.set_cons_succ]; rfl
  refine pure_ (i := 3) (N := some 103) (v := ?_) (a' := ?_) #[true, false, true, true, false, false, false, false] rfl rfl (by kernel_rfl) (fun _ _ _ h => h.pan) (Or.inl ⟨by rfl, ?_⟩) ?_ ?_
  rotate_left
  · intro w'; go_simp; with_reducible rfl
  rotate_left
  · simp only [Act.put, List.setIfInBounds_toArray, List.set_cons_zero, List.set_cons_succ]; rfl
  refine take_ (i := 1) (N := some 101) (v := ?_) (a' := ?_) #[true, true, true, true, false, false, false, false] rfl rfl (by kernel_rfl) (fun _ _ _ h => h.pan) (Or.inl ⟨by rfl, ?_⟩) hHeld ?_ ?_
  rotate_left
  · rintro w' ⟨s0, s1⟩; have c2 := s0.at_ 0 rfl; go_simp; with_reducible rfl
  rotate_left
  · simp only [Act.put, List.setIfInBounds_toArray, List.set_cons_zero, List.set_cons_succ]; rfl
  refine one_ (i := 4) (N := none) #[true, true, true, true, true, false, false, false] rfl rfl (by kernel_rfl) (by decide) (fun K hK => ?_)
  refine step_storeN (N := none) rfl rfl 3 (.tmp 103) _ rfl gp 3 (.int .i64 0) rfl rfl rfl 123 _ (BP.no fd) (by show 3 < 5; decide) sizeInt ?_; intro w1 f1 b1; refine hK.out _ _ ⟨hHeld.1.one f1 hne, hHeld.2.one f1 (.inl rfl)⟩ (fun hHeld => ?_)
  clear hK K
  refine norm_ (a' := ?_) ?_ ?_
  rotate_left
  · simp only [Act.put, List.setIfInBounds_toArray, List.set_cons_zero, List.set_cons_succ]; rfl
  refine pure_ (i := 5) (N := some 104) (v := ?_) (a' := ?_) #[true, true, true, true, true, true, false, false] rfl rfl (by kernel_rfl) (fun _ _ _ h => h.pan) (Or.inl ⟨by rfl, ?_⟩) ?_ ?_
  rotate_left
  · intro w'; go_simp; with_reducible rfl
  rotate_left
  · simp only [Act.put, List.setIfInBounds_toArray, List.set_cons_zero, List.set_cons_succ]; rfl
  refine pure_ (i := 6) (N := some 105) (v := ?_) (a' := ?_) #[true, true, true, true, true, true, true, false] rfl rfl (by kernel_rfl) (fun _ _ _ h => h.pan) (Or.inl ⟨by rfl, ?_⟩) ?_ ?_
  rotate_left
  · intro w'; go_simp; with_reducible rfl
  rotate_left
  · simp only [Act.put, List.setIfInBounds_toArray, List.set_cons_zero, List.set_cons_succ]; rfl
  refine one_ (i := 7) (N := none) #[true, true, true, true, true, true, true, true] rfl rfl (by kernel_rfl) (by decide) (fun K hK => ?_)
  refine step_storeN (N := none) rfl rfl 9 (.tmp 105) _ rfl gp 4 (.string ⟨#[]⟩) rfl rfl rfl 123 _ b1 (by show 4 < 5; decide) sizePtr ?_; intro w2 f2 b2; refine hK.out _ _ ⟨hHeld.1.one f2 hne, hHeld.2.one f2 (.inl rfl)⟩ (fun hHeld => ?_)
  clear hK K
  refine norm_ (a' := ?_) ?_ ?_
  rotate_left
  · simp only [Act.put, List.setIfInBounds_toArray, List.set_cons_zero, List.set_cons_succ]; rfl
  refine done_ (by kernel_rfl) ?_
  refine join_fin () ?_ ?_; exact ⟨hHeld.2, b2⟩; (simp only [putAll, Act.put, List.setIfInBounds_toArray, List.set_cons_zero, List.set_cons_succ]; rfl)

set_option maxHeartbeats 8000000 in
set_option maxRecDepth 100000 in
theorem pw_reg26 (DS : List Deferred) (b gp g2 g5 g8 side : Nat) (n1 : Int) (s : B) (p : PlateS) (W : World) (u : Nat → Value) (B2 : Blk W g2 37 [.pointer (some ⟨gp, 0, none⟩)]) (BP : Blk W gp 123 (plL b p)) (B5 : Blk W g5 3 [.int .i64 (side : Int)]) (hne : g2 ≠ gp) (hn5 : g5 ≠ gp) (Q : Exit → Act → World → Prop)
    (hQ : ∀ (u : Nat → Value) ws, Fr (One gp) W ws → Blk ws gp 123 (plL b ⟨p.half, side, n1, s⟩) → Q .normal { tmps := List.toArray (.pointer (some ⟨gp, 0, none⟩) :: .string (bs s) :: .pointer (some ⟨g2, 0, none⟩) :: u 3 :: u 4 :: .pointer (some ⟨g5, 0, none⟩) :: .int .i64 n1 :: u 7 :: .pointer (some ⟨g8, 0, none⟩) :: u 9 :: u 10 :: u 11 :: u 12 :: u 13 :: u 14 :: u 15 :: u 16 :: u 17 :: u 18 :: u 19 :: u 20 :: u 21 :: u 22 :: u 23 :: u 24 :: u 25 :: u 26 :: u 27 :: u 28 :: u 29 :: u 30 :: u 31 :: u 32 :: u 33 :: u 34 :: u 35 :: u 36 :: u 37 :: u 38 :: u 39 :: u 40 :: u 41 :: u 42 :: u 43 :: u 44 :: u 45 :: u 46 :: u 47 :: u 48 :: u 49 :: u 50 :: u 51 :: u 52 :: u 53 :: u 54 :: u 55 :: u 56 :: u 57 :: u 58 :: u 59 :: u 60 :: u 61 :: u 62 :: u 63 :: u 64 :: u 65 :: u 66 :: u 67 :: u 68 :: u 69 :: u 70 :: u 71 :: u 72 :: u 73 :: u 74 :: u 75 :: u 76 :: u 77 :: u 78 :: u 79 :: u 80 :: u 81 :: u 82 :: u 83 :: u 84 :: u 85 :: u 86 :: u 87 :: u 88 :: u 89 :: u 90 :: u 91 :: u 92 :: u 93 :: u 94 :: u 95 :: u 96 :: u 97 :: u 98 :: u 99 :: u 100 :: u 101 :: u 102 :: u 103 :: u 104 :: u 105 :: u 106 :: u 107 :: u 108 :: u 109 :: u 110 :: u 111 :: u 112 :: u 113 :: u 114 :: u 115 :: u 116 :: u 117 :: u 118 :: []), defers := DS } ws) :
    Code.wp Try.prog (sub [1, 1, 1, 1, 1, 1, 1, 1, 1, 1, 1, 1, 0] bodyPW) Q { tmps := List.toArray (.pointer (some ⟨gp, 0, none⟩) :: .string (bs s) :: .pointer (some ⟨g2, 0, none⟩) :: u 3 :: u 4 :: .pointer (some ⟨g5, 0, none⟩) :: .int .i64 n1 :: u 7 :: .pointer (some ⟨g8, 0, none⟩) :: u 9 :: u 10 :: u 11 :: u 12 :: u 13 :: u 14 :: u 15 :: u 16 :: u 17 :: u 18 :: u 19 :: u 20 :: u 21 :: u 22 :: u 23 :: u 24 :: u 25 :: u 26 :: u 27 :: u 28 :: u 29 :: u 30 :: u 31 :: u 32 :: u 33 :: u 34 :: u 35 :: u 36 :: u 37 :: u 38 :: u 39 :: u 40 :: u 41 :: u 42 :: u 43 :: u 44 :: u 45 :: u 46 :: u 47 :: u 48 :: u 49 :: u 50 :: u 51 :: u 52 :: u 53 :: u 54 :: u 55 :: u 56 :: u 57 :: u 58 :: u 59 :: u 60 :: u 61 :: u 62 :: u 63 :: u 64 :: u 65 :: u 66 :: u 67 :: u 68 :: u 69 :: u 70 :: u 71 :: u 72 :: u 73 :: u 74 :: u 75 :: u 76 :: u 77 :: u 78 :: u 79 :: u 80 :: u 81 :: u 82 :: u 83 :: u 84 :: u 85 :: u 86 :: u 87 :: u 88 :: u 89 :: u 90 :: u 91 :: u 92 :: u 93 :: u 94 :: u 95 :: u 96 :: u 97 :: u 98 :: u 99 :: u 100 :: u 101 :: u 102 :: u 103 :: u 104 :: u 105 :: u 106 :: u 107 :: u 108 :: u 109 :: u 110 :: u 111 :: u 112 :: u 113 :: u 114 :: u 115 :: u 116 :: u 117 :: u 118 :: []), defers := DS } W := by
  conv => arg 2; whnf
  have fd := (Fr.refl No W).drew
  have HQ := Kp.mk hQ
  clear hQ
  refine region_join (τ := Unit) (fun (u : Nat → Value) t => [(107, u 107), (108, u 108), (109, u 109), (110, u 110), (111, u 111), (112, u 112), (113, u 113), (114, u 114), (115, u 115), (116, u 116), (117, u 117), (118, u 118)]) (fun _ ws => Fr (One gp) W ws ∧ Blk ws gp 123 (plL b ⟨p.half, side, n1, s⟩)) ?_ ?_
  rotate_left
  · rintro u' _ ws ⟨q1, q2⟩
    simp only [putAll, Act.put, List.setIfInBounds_toArray, List.set_cons_zero, List.set_cons_succ]
    exact K_ud (K := Q .normal) (fun u => HQ.out u ws q1 q2) rfl
  refine start_ (n := 15) (S := (fun w' => Blk w' g2 37 [.pointer (some ⟨gp, 0, none⟩)] ∧ Blk w' g5 3 [.int .i64 (side : Int)] ∧ Fr (One gp) W w')) (ds := []) #[false, false, false, false, false, false, false, false, false, false, false, false, false, false, false] (by kernel_rfl) rfl rfl ⟨B2.no fd, B5.no fd, fd.mono (fun i h => h.elim)⟩ (fun hHeld => ?_)
  refine pure_ (i := 4) (N := some 111) (v := ?_) (a' := ?_) #[false, false, false, false, true, false, false, false, false, false, false, false, false, false, false] rfl rfl (by kernel_rfl) (fun _ _ _ h => h.pan) (Or.inl ⟨by rfl, ?_⟩) ?_ ?_
  rotate_left
  · intro w'; go_simp; with_reducible rfl
  rotate_left
  · simp only [Act.put, List.setIfInBounds_toArray, List.set_cons_zero, List.set_cons_succ]; rfl
  refine pure_ (i := 5) (N := some 112) (v := ?_) (a' := ?_) #[false, false, false, false, true, true, false, false, false, false, false, false, false, false, false] rfl rfl (by kernel_rfl) (fun _ _ _ h => h.pan) (Or.inl ⟨by rfl, ?_⟩) ?_ ?_
  rotate_left
  · intro w'; go_simp; with_reducible rfl
  rotate_left
  · simp only [Act.put, List.setIfInBounds_toArray, List.set_cons_zero, List.set_cons_succ]; rfl
  refine take_ (i := 0) (N := some 107) (v := ?_) (a' := ?_) #[true, false, false, false, true, true, false, false, false, false, false, false, false, false, false] rfl rfl (by kernel_rfl) (fun _ _ _ h => h.pan) (Or.inl ⟨by rfl, ?_⟩) hHeld ?_ ?_
  rotate_left
  · rintro w' ⟨s0, s1, s2⟩; have c2 := s0.at_ 0 rfl; have c5 := s1.at_ 0 rfl; go_simp; with_reducible rfl
  rotate_left
  · simp only [Act.put, List.setIfInBounds_toArray, List.set_cons_zero, List.set_cons_succ]; rfl
  refine take_ (i := 1) (N := some 108) (v := ?_) (a' := ?_) #[true, true, false, false, true, true, false, false, false, false, false, false, false, false, false] rfl rfl (by kernel_rfl) (fun _ _ _ h => h.pan) (Or.inl ⟨by rfl, ?_⟩) hHeld ?_ ?_
  rotate_left
  · rintro w' ⟨s0, s1, s2⟩; have c2 := s0.at_ 0 rfl; have c5 := s1.at_ 0 rfl; go_simp; with_reducible rfl
  rotate_left
  · simp only [Act.put, List.setIfInBounds_toArray, List.set_cons_zero, List.set_cons_succ]; rfl
  refine take_ (i := 2) (N := some 109) (v := ?_) (a' := ?_) #[true, true, true, false, true, true, false, false, false, false, false, false, false, false, false] rfl rfl (by kernel_rfl) (fun _ _ _ h => h.pan) (Or.inl ⟨by rfl, ?_⟩) hHeld ?_ ?_
  rotate_left
  · rintro w' ⟨s0, s1, s2⟩; have c2 := s0.at_ 0 rfl; have c5 := s1.at_ 0 rfl; go_simp; with_reducible rfl
  rotate_left
  · simp only [Act.put, List.setIfInBounds_toArray, List.set_cons_zero, List.set_cons_succ]; rfl
  refine take_ (i := 3) (N := some 110) (v := ?_) (a' := ?_) #[true, true, true, true, true, true, false, false, false, false, false, false, false, false, false] rfl rfl (by kernel_rfl) (fun _ _ _ h => h.pan) (Or.inl ⟨by rfl, ?_⟩) hHeld ?_ ?_
  rotate_left
  · rintro w' ⟨s0, s1, s2⟩; have c2 := s0.at_ 0 rfl; have c5 := s1.at_ 0 rfl; go_simp; with_reducible rfl
  rotate_left
  · simp only [Act.put, List.setIfInBounds_toArray, List.set_cons_zero, List.set_cons_succ]; rfl
  refine pure_ (i := 6) (N := some 113) (v := ?_) (a' := ?_) #[true, true, true, true, true, true, true, false, false, false, false, false, false, false, false] rfl rfl (by kernel_rfl) (fun _ _ _ h => h.pan) (Or.inl ⟨by rfl, ?_⟩) ?_ ?_
  rotate_left
  · intro w'; go_simp; with_reducible rfl
  rotate_left
  · simp only [Act.put, List.setIfInBounds_toArray, List.set_cons_zero, List.set_cons_succ]; rfl
  refine pure_ (i := 7) (N := some 114) (v := ?_) (a' := ?_) #[true, true, true, true, true, true, true, true, false, false, false, false, false, false, false] rfl rfl (by kernel_rfl) (fun _ _ _ h => h.pan) (Or.inl ⟨by rfl, ?_⟩) ?_ ?_
  rotate_left
  · intro w'; go_simp; with_reducible rfl
  rotate_left
  · simp only [Act.put, List.setIfInBounds_toArray, List.set_cons_zero, List.set_cons_succ]; rfl
  refine one_ (i := 8) (N := none) #[true, true, true, true, true, true, true, true, true, false, false, false, false, false, false] rfl rfl (by kernel_rfl) (by decide) (fun K hK => ?_)
  refine step_storeN (N := none) rfl rfl 3 (.tmp 114) _ rfl gp 2 (.int .i64 (side : Int)) rfl rfl rfl 123 _ (BP.no fd) (by show 2 < 5; decide) sizeInt ?_; intro w1 f1 b1; refine hK.out _ _ ⟨hHeld.1.one f1 hne, hHeld.2.1.one f1 hn5, hHeld.2.2.one f1 (.inl rfl)⟩ (fun hHeld => ?_)
  clear hK K
  refine norm_ (a' := ?_) ?_ ?_
  rotate_left
  · simp only [Act.put, List.setIfInBounds_toArray, List.set_cons_zero, List.set_cons_succ]; rfl
  refine pure_ (i := 9) (N := some 115) (v := ?_) (a' := ?_) #[true, true, true, true, true, true, true, true, true, true, false, false, false, false, false] rfl rfl (by kernel_rfl) (fun _ _ _ h => h.pan) (Or.inl ⟨by rfl, ?_⟩) ?_ ?_
  rotate_left
  · intro w'; go_simp; with_reducible rfl
  rotate_left
  · simp only [Act.put, List.setIfInBounds_toArray, List.set_cons_zero, List.set_cons_succ]; rfl
  refine pure_ (i := 10) (N := some 116) (v := ?_) (a' := ?_) #[true, true, true, true, true, true, true, true, true, true, true, false, false, false, false] rfl rfl (by kernel_rfl) (fun _ _ _ h => h.pan) (Or.inl ⟨by rfl, ?_⟩) ?_ ?_
  rotate_left
  · intro w'; go_simp; with_reducible rfl
  rotate_left
  · simp only [Act.put, List.setIfInBounds_toArray, List.set_cons_zero, List.set_cons_succ]; rfl
  refine one_ (i := 11) (N := none) #[true, true, true, true, true, true, true, true, true, true, true, true, false, false, false] rfl rfl (by kernel_rfl) (by decide) (fun K hK => ?_)
  refine step_storeN (N := none) rfl rfl 3 (.tmp 116) _ rfl gp 3 (.int .i64 n1) rfl rfl rfl 123 _ b1 (by show 3 < 5; decide) sizeInt ?_; intro w2 f2 b2; refine hK.out _ _ ⟨hHeld.1.one f2 hne, hHeld.2.1.one f2 hn5, hHeld.2.2.one f2 (.inl rfl)⟩ (fun hHeld => ?_)
  clear hK K
  refine norm_ (a' := ?_) ?_ ?_
  rotate_left
  · simp only [Act.put, List.setIfInBounds_toArray, List.set_cons_zero, List.set_cons_succ]; rfl
  refine pure_ (i := 12) (N := some 117) (v := ?_) (a' := ?_) #[true, true, true, true, true, true, true, true, true, true, true, true, true, false, false] rfl rfl (by kernel_rfl) (fun _ _ _ h => h.pan) (Or.inl ⟨by rfl, ?_⟩) ?_ ?_
  rotate_left
  · intro w'; go_simp; with_reducible rfl
  rotate_left
  · simp only [Act.put, List.setIfInBounds_toArray, List.set_cons_zero, List.set_cons_succ]; rfl
  refine pure_ (i := 13) (N := some 118) (v := ?_) (a' := ?_) #[true, true, true, true, true, true, true, true, true, true, true, true, true, true, false] rfl rfl (by kernel_rfl) (fun _ _ _ h => h.pan) (Or.inl ⟨by rfl, ?_⟩) ?_ ?_
  rotate_left
  · intro w'; go_simp; with_reducible rfl
  rotate_left
  · simp only [Act.put, List.setIfInBounds_toArray, List.set_cons_zero, List.set_cons_succ]; rfl
  refine one_ (i := 14) (N := none) #[true, true, true, true, true, true, true, true, true, true, true, true, true, true, true] rfl rfl (by kernel_rfl) (by decide) (fun K hK => ?_)
  refine step_storeN (N := none) rfl rfl 9 (.tmp 118) _ rfl gp 4 (.string (bs s)) rfl rfl rfl 123 _ b2 (by show 4 < 5; decide) sizePtr ?_; intro w3 f3 b3; refine hK.out _ _ ⟨hHeld.1.one f3 hne, hHeld.2.1.one f3 hn5, hHeld.2.2.one f3 (.inl rfl)⟩ (fun hHeld => ?_)
  clear hK K
  refine norm_ (a' := ?_) ?_ ?_
  rotate_left
  · simp only [Act.put, List.setIfInBounds_toArray, List.set_cons_zero, List.set_cons_succ]; rfl
  refine done_ (by kernel_rfl) ?_
  refine join_fin () ?_ ?_; exact ⟨hHeld.2.2, b3⟩; (simp only [putAll, Act.put, List.setIfInBounds_toArray, List.set_cons_zero, List.set_cons_succ]; rfl)
end Go.Proofs.Ytaohfmmapammcaa.Pl
