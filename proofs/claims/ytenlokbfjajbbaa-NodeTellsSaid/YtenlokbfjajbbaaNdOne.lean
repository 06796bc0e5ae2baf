/- Texts joined by merge.py: NdFind, NdRight, NdWith, NdNum, NdPrint, NdSame, NdWithout. -/
import Derived.Test.YtenlokbfjajbbaaNodeName
import Derived.Test.YtenlokbfjajbbaaNodeFind
import Derived.Test.YtenlokbfjajbbaaNodePlain
import Derived.Test.YtenlokbfjajbbaaNodeFew
import Derived.Test.YtenlokbfjajbbaaNodeRight2
import Derived.Test.YtenlokbfjajbbaaNodeLaws
import Derived.Test.YtenlokbfjajbbaaEv3
import Derived.Test.YtenlokbfjajbbaaPNodeTellsx3
import Derived.Test.YtenlokbfjajbbaaNodeWith
import Derived.Test.YtenlokbfjajbbaaNodeParse
import Derived.Test.YtenlokbfjajbbaaNodeJoin
import Derived.Test.YtenlokbfjajbbaaNodeSame
/- The document's Find, walked. No conditions. -/
set_option linter.unusedSimpArgs false
set_option linter.unusedVariables false
namespace Go.Proofs.Ytenlokbfjajbbaa.Nd
open Go Go.RowKit Go.Proofs.YtenlokbfjajbbaaW.PrintWords Go.Proofs.Ytenlokbfjajbbaa.Ev

theorem find_at {N : Nd} {n : ByteArray} {i : Nat} (hi : i < N.ents.length) (h0 : ∀ j, j < i → isNm n (N.ents.getD j default) = false) (h1 : isNm n (N.ents.getD i default) = true) : findN N n = ((N.ents.getD i default).2, true) := by
  rcases idx_find N n with ⟨hx, hf⟩ | ⟨k, hx, hk, hf⟩
  · rw [idx_hit h0 hi h1] at hx; omega
  · rw [idx_hit h0 hi h1] at hx
    have : k = i := by omega
    rw [hf, this]
theorem find_none {N : Nd} {n : ByteArray} (h0 : ∀ j, j < N.ents.length → isNm n (N.ents.getD j default) = false) : findN N n = (0, false) := by
  rcases idx_find N n with ⟨hx, hf⟩ | ⟨k, hx, hk, hf⟩
  · exact hf
  · rw [idx_miss h0] at hx; omega

set_option maxHeartbeats 4000000 in
set_option maxRecDepth 100000 in
theorem rfind_any (N : Nd) (v : Value) (n : ByteArray) (W : World) (hs : EntS W v N.ents) :
    Calls Try.prog 42 #[ndV N v, .string n] W fun e w' => e = .returned (.tuple #[.int .i64 (findN N n).1, .bool (findN N n).2]) ∧ Fr No W w' := by
  obtain ⟨R, hR⟩ : ∃ R, findN N n = R := ⟨_, rfl⟩
  rw [hR]
  have HR := Kp.mk hR
  clear hR
  obtain ⟨A, c, rfl, h1, h2, h3⟩ := hs.out
  obtain ⟨k, m, d, t, es⟩ := N
  have H3 := Kp.mk h3
  have hsz : es.length ≤ 9223372036854775807 := by have : es.length ≤ c := h1; omega
  clear h3 hs
  go_enter Try.func42, Try.ntmps42
  go_wp2_with ((with_reducible refine gate_dst (N := 2) rfl ?_); refine ev_box rfl 56 _ rfl _ rfl [.int .i64 k, .int .i64 m, .string d, .string t, .slice A es.length c] rfl ?_; intro g1 w1 hg1 f1 b1; have c4 := b1.at_ 4 rfl)
  go_loopg [6] es.length (fun gg s wr => ∃ kk : Nat, kk ≤ es.length ∧ es.length - kk ≤ gg ∧ s = .int .i64 kk ∧ wr = w1 ∧ Kp (∀ j, j < kk → isNm n (es.getD j default) = false))
  case atStart => exact ⟨0, Nat.zero_le _, by omega, rfl, rfl, ⟨fun j hj => absurd hj (Nat.not_lt_zero _)⟩⟩
  case round =>
    obtain ⟨kk, hkk, hg, rfl, rfl, NE⟩ := hrel
    by_cases hlt : kk < es.length
    · have hltz : (kk : Int) < (es.length : Int) := by omega
      obtain ⟨b, o, rfl, hb, hcc⟩ := H3.out (by simpa using (by omega : 0 < es.length))
      have l1 := Fr.cell (hcc kk hlt).1 f1 (fun h => h)
      have l2 := Fr.cell (hcc kk hlt).2 f1 (fun h => h)
      clear hcc
      cases hq : isNm n (es.getD kk default) with
      | true =>
        have hr := find_at (N := ⟨k, m, d, t, es⟩) (n := n) hlt NE.out hq
        rw [HR.out] at hr
        have hr2 : R = ((es.getD kk default).2, true) := hr
        have he : ((es.getD kk default).1.toList == n.toList) = true := hq
        have he2 : (es.getD kk default).1.toList = n.toList := by simpa using he
        clear hr hq NE HR
        generalize es.getD kk default = y at l1 l2 he he2 hr2
        obtain ⟨y1, y2⟩ := y
        simp only at l1 l2 he he2 hr2
        subst hr2
        go_wp2_with fail
        go_ret2
        exact ⟨rfl, f1⟩
      | false =>
        have he : ((es.getD kk default).1.toList == n.toList) = false := hq
        have he2 : ¬ (es.getD kk default).1.toList = n.toList := by simpa using he
        have NX : Kp (∀ j, j < kk + 1 → isNm n (es.getD j default) = false) := ⟨fun j hj => by
          by_cases e : j = kk
          · rw [e]; exact hq
          · exact NE.out j (by omega)⟩
        clear hq NE
        generalize (es.getD kk default).1 = y at l1 he he2
        clear l2
        go_wp2_with fail
        go_roundg (es.length - (kk + 1))
        case measure => omega
        case rel => exact ⟨kk + 1, by omega, by omega, by go_num, rfl, NX⟩
    · have hltz : ¬ (kk : Int) < (es.length : Int) := by omega
      obtain rfl : kk = es.length := by omega
      have hr := find_none (N := ⟨k, m, d, t, es⟩) (n := n) NE.out
      rw [HR.out] at hr
      subst hr
      go_wp2_with fail
      go_ret2
      exact ⟨rfl, f1⟩
end Go.Proofs.Ytenlokbfjajbbaa.Nd

/- The document's Right, walked. Conditions: the names' sizes are bounded, as written out. -/
set_option linter.unusedSimpArgs false
set_option linter.unusedVariables false
namespace Go.Proofs.Ytenlokbfjajbbaa.Nd
open Go Go.RowKit Go.Proofs.YtenlokbfjajbbaaW.PrintWords Go.Proofs.YtenlokbfjajbbaaW.PrintLast Go.Proofs.YtenlokbfjajbbaaW.PrintMore Go.Proofs.Ytenlokbfjajbbaa.Ev Go.Proofs.Ytenlokbfjajbbaa.PNodeTells

theorem bt_get (s : ByteArray) (i : Nat) (h : i < s.data.toList.length) : bt s (i : Int) = ((s.data.toList[i]'h).toNat : Int) := by
  have hs : i < s.size := by rw [Lib.size_eq]; exact h
  have := bt_at s (i : Int) (by simpa using hs)
  rw [← this]
  rfl
theorem u8_of {c : UInt8} (d : UInt8) (h : (c.toNat : Int) = (d.toNat : Int)) : c = d := UInt8.toNat_inj.1 (by omega)
theorem wrap_small {n : Int} (h0 : 0 ≤ n) (h1 : n ≤ 1099511627777) : wrap64 n = n := by unfold wrap64; omega
def tailB (s : ByteArray) : Bool := decide (1 ≤ s.size) && decide (s.size ≤ 16) && !(s.toList == [46]) && !(s.toList == [46, 46])
theorem ref_right_tail (s : ByteArray) : (if (s.size : Int) ≥ 1 then (if (s.size : Int) ≤ 16 then (if s.toList = ([46] : List UInt8) then (some false) else (some (s.toList != ([46, 46] : List UInt8)))) else (some false)) else (some false)) = some (tailB s) := by
  unfold tailB
  by_cases h1 : 1 ≤ s.size
  · rw [if_pos (by omega), decide_eq_true h1]
    by_cases h2 : s.size ≤ 16
    · rw [if_pos (by omega), decide_eq_true h2]
      by_cases h3 : s.toList = [46]
      · rw [if_pos h3, h3]; rfl
      · rw [if_neg h3]
        have : (s.toList == [46]) = false := by simpa using h3
        rw [this]; rfl
    · rw [if_neg (by omega), decide_eq_false h2]; rfl
  · rw [if_neg (by omega), decide_eq_false h1]; rfl
theorem ref_right_l (s : ByteArray) (hs : s.size ≤ 1099511627776) : ∀ (m i : Nat), i + m = s.size → ∀ k, m + 1 ≤ k → snapferryref09_Right.l0 k s i = some (!((s.data.toList.drop i).any badB) && tailB s)
  | 0, i, hi, k, hk => by
    obtain ⟨k, rfl⟩ : ∃ k', k = k' + 1 := ⟨k - 1, by omega⟩
    rw [snapferryref09_Right.l0, if_neg (by omega), ref_right_tail]
    have : s.data.toList.drop i = [] := List.drop_of_length_le (by rw [← Lib.size_eq]; omega)
    rw [this]; simp
  | m + 1, i, hi, k, hk => by
    obtain ⟨k, rfl⟩ : ∃ k', k = k' + 1 := ⟨k - 1, by omega⟩
    have hl : i < s.data.toList.length := by rw [← Lib.size_eq]; omega
    have ih := ref_right_l s hs m (i + 1) (by omega) k (by omega)
    rw [snapferryref09_Right.l0, if_pos (by omega), if_pos (by omega), bt_get s i hl, List.drop_eq_getElem_cons hl, List.any_cons]
    generalize s.data.toList[i]'hl = c
    by_cases h1 : c = 47
    · subst h1; rfl
    · have n1 : ¬ ((c.toNat : Int) = 47) := fun h => h1 (u8_of 47 h)
      rw [if_neg n1]
      by_cases h2 : c = 0
      · subst h2; rfl
      · have n2 : ¬ ((c.toNat : Int) = 0) := fun h => h2 (u8_of 0 h)
        have hb : badB c = false := by simp [badB, h1, h2]
        rw [if_neg n2, wrap_small (by omega) (by omega), hb, Bool.false_or]
        exact ih
theorem ref_right (s : ByteArray) (hs : s.size ≤ 1099511627776) (k : Nat) (hk : s.size + 1 ≤ k) : snapferryref09_Right.f k s = some (nameB s) := by
  have h := ref_right_l s hs s.size 0 (by omega) k hk
  rw [snapferryref09_Right.f]
  have e : ((0 : Nat) : Int) = 0 := rfl
  rw [e] at h
  rw [h, List.drop_zero]
  unfold tailB nameB
  cases s.data.toList.any badB <;> cases decide (1 ≤ s.size) <;> cases decide (s.size ≤ 16) <;> rfl
theorem rname_any (s : ByteArray) (w : World) (hs : s.size ≤ 1099511627776) : Calls Try.prog 82 #[.string s] w fun e w' => e = .returned (.bool (nameB s)) ∧ Fr No w w' := by
  refine (snapferryref09_Right.calls 1099511627777 s (nameB s) w (ref_right s hs _ (by omega))).mono ?_
  rintro e w' ⟨rfl, hd⟩
  obtain ⟨n, rfl⟩ := hd.out
  exact ⟨rfl, (Fr.refl _ _).drewN n⟩

theorem right_not {N : Nd} {k : Nat} (hk : k < N.ents.length) (h : okAt N.ents k = false) : rightB N = false := by
  have hr := rising_not hk h
  have hl : ¬ N.ents.length = 0 := by omega
  unfold rightB
  rw [hr, decide_eq_false hl]
  simp
theorem right_long {N : Nd} (h : 64 < N.ents.length) : rightB N = false := by
  have hr : risingB N.ents = false := by unfold risingB; rw [decide_eq_false (show ¬ N.ents.length ≤ 64 by omega), Bool.and_false]
  have hl : ¬ N.ents.length = 0 := by omega
  unfold rightB
  rw [hr, decide_eq_false hl]
  simp
theorem right_mode {N : Nd} (h : N.mode < 0 ∨ 511 < N.mode) : rightB N = false := by unfold rightB; rw [if_pos h]
theorem right_tail {N : Nd} (hm : ¬ (N.mode < 0 ∨ 511 < N.mode)) (hr : risingB N.ents = true) : rightB N = if N.kind = 1 then decide (N.target.size = 0) && decide (N.ents.length = 0) && decide (N.data.size ≤ 4096) else if N.kind = 2 then decide (N.data.size = 0) && decide (N.target.size = 0) else if N.kind = 3 then decide (N.data.size = 0) && decide (N.ents.length = 0) && decide (1 ≤ N.target.size) && decide (N.target.size ≤ 64) else false := by
  unfold rightB
  rw [if_neg hm, hr]
  simp
theorem emp (s : ByteArray) : (s.size = 0 ∧ s.toList = [] ∧ s.toList.isEmpty = true) ∨ (¬ s.size = 0 ∧ ¬ s.toList = [] ∧ s.toList.isEmpty = false) := by
  by_cases h : s.size = 0
  · left
    have := (empty_list s).2 h
    exact ⟨h, this, by rw [this]; rfl⟩
  · right
    have : ¬ s.toList = [] := fun h2 => h ((empty_list s).1 h2)
    exact ⟨h, this, by rw [← Bool.not_eq_true, List.isEmpty_iff]; exact this⟩

set_option maxHeartbeats 8000000 in
set_option maxRecDepth 100000 in
theorem rright_any (N : Nd) (v : Value) (W : World) (hs : EntS W v N.ents) (hz : Small N.ents) :
    Calls Try.prog 48 #[ndV N v] W fun e w' => e = .returned (.bool (rightB N)) ∧ Fr No W w' := by
  obtain ⟨A, c, rfl, h1, h2, h3⟩ := hs.out
  obtain ⟨k, m, d, t, es⟩ := N
  obtain ⟨x, hx⟩ : ∃ x, rightB ⟨k, m, d, t, es⟩ = x := ⟨_, rfl⟩
  rw [hx]
  have HX := Kp.mk hx
  have HZ := Kp.mk hz
  have H3 := Kp.mk h3
  have hsz : es.length ≤ 9223372036854775807 := by have : es.length ≤ c := h1; omega
  clear hs hx hz h3
  by_cases hm : m < 0 ∨ 511 < m
  · have hr := right_mode (N := ⟨k, m, d, t, es⟩) hm
    rw [HX.out] at hr
    subst hr
    rcases hm with hm | hm
    · go_enter Try.func48, Try.ntmps48
      go_wp2_with ((with_reducible refine gate_dst (N := 1) rfl ?_); refine ev_box rfl 56 _ rfl _ rfl (ndL k m d t (.slice A es.length c)) rfl ?_; intro g1 w1 hg1 f1 b1; have c1 := b1.at_ 1 rfl)
      go_ret
      exact ⟨rfl, f1⟩
    · have hm2 : ¬ m < 0 := by omega
      go_enter Try.func48, Try.ntmps48
      go_wp2_with ((with_reducible refine gate_dst (N := 1) rfl ?_); refine ev_box rfl 56 _ rfl _ rfl (ndL k m d t (.slice A es.length c)) rfl ?_; intro g1 w1 hg1 f1 b1; have c1 := b1.at_ 1 rfl)
      go_ret
      exact ⟨rfl, f1⟩
  · have hm1 : ¬ m < 0 := by omega
    have hm2 : ¬ 511 < m := by omega
    by_cases h64 : es.length ≤ 64
    · have h64z : ¬ (64 : Int) < (es.length : Int) := by omega
      have hmd1 : decide (m < 0) = false := decide_eq_false hm1
      have hmd2 : decide (511 < m) = false := decide_eq_false hm2
      have hmd3 : decide ((64 : Int) < (es.length : Int)) = false := decide_eq_false h64z
      go_enter Try.func48, Try.ntmps48
      go_wp2_with ((with_reducible refine gate_dst (N := 1) rfl ?_); refine ev_box rfl 56 _ rfl _ rfl (ndL k m d t (.slice A es.length c)) rfl ?_; intro g1 w1 hg1 f1 b1; have c1 := b1.at_ 1 rfl; have c4 := b1.at_ 4 rfl)
      clear c1 c4
      go_loopg [3] es.length (fun gg s wr => ∃ kk : Nat, kk ≤ es.length ∧ es.length - kk ≤ gg ∧ s = .int .i64 kk ∧ Kp (Fr No w1 wr) ∧ Kp (∀ j, j < kk → okAt es j = true))
      case atStart => exact ⟨0, Nat.zero_le _, by omega, rfl, ⟨Fr.refl _ _⟩, ⟨fun j hj => absurd hj (Nat.not_lt_zero _)⟩⟩
      case round =>
        obtain ⟨kk, hkk, hg, rfl, FW, N⟩ := hrel
        have b1 := b1.no FW.out
        have c4 := b1.at_ 4 rfl
        have F := f1.no FW.out
        by_cases hlt : kk < es.length
        · have hltz : (kk : Int) < (es.length : Int) := by omega
          obtain ⟨b, o, rfl, hb, hcc⟩ := H3.out (by simpa using (by omega : 0 < es.length))
          have HCC := Kp.mk (fun j (hj : j < es.length) => And.intro (Fr.cell (hcc j hj).1 F (fun h => h)) (Fr.cell (hcc j hj).2 F (fun h => h)))
          clear hcc
          obtain ⟨l1, l2⟩ := HCC.out kk hlt
          have hzk : (es.getD kk default).1.size < 4294967281 := HZ.out _ (by rw [List.getD_eq_getElem?_getD, List.getElem?_eq_getElem hlt]; exact List.getElem_mem hlt)
          have HFIN : Kp (okAt es kk = false → x = false) := ⟨fun h => by rw [← HX.out]; exact right_not (N := ⟨k, m, d, t, es⟩) hlt h⟩
          have HNXT : Kp (okAt es kk = true → ∀ j, j < kk + 1 → okAt es j = true) := ⟨fun h j hj => by
            by_cases e : j = kk
            · rw [e]; exact h
            · exact N.out j (by omega)⟩
          have HOK : Kp (okAt es kk = (nameB (es.getD kk default).1 && decide (1 ≤ (es.getD kk default).2) && decide ((es.getD kk default).2 ≤ 2147483647) && (kk == 0 || Op.bytesLess (es.getD (kk - 1) default).1.toList (es.getD kk default).1.toList))) := ⟨rfl⟩
          have LP : Kp (0 < kk → wr.cell? ⟨b, o + (kk - 1) * 2, none⟩ = some (.string (es.getD (kk - 1) default).1)) := ⟨fun h0 => (HCC.out (kk - 1) (by omega)).1⟩
          clear N HCC
          generalize es.getD kk default = y at l1 l2 hzk HOK
          generalize (es.getD (kk - 1) default).1 = pr at HOK LP
          obtain ⟨y1, y2⟩ := y
          simp only at l1 l2 hzk HOK
          cases hnm : nameB y1 with
          | false =>
            obtain rfl : x = false := HFIN.out (by rw [HOK.out, hnm]; rfl)
            go_wp2_with (first | ((with_reducible refine gate_dst (N := 4) rfl ?_); go_must (refine ev_alloc rfl 75 rfl _ [.string ⟨#[]⟩, .int .i64 0] zeroE rfl ?_); intro g4 w7 hg4 f7 b4) | ((with_reducible refine gate_store (t := 75) (p := 4) rfl ?_); go_must (refine ev_store_row rfl 75 _ _ rfl g4 #[.string y1, .int .i64 y2] rfl rfl 75 _ b4 sizeE rfl (by simp [Value.oneCell']) ?_); intro w8 s4 B4; have F8 := f7.one s4 (.inr hg4); clear f7 s4 b4))
            have fd := (Fr.refl No w8).drew
            refine region_quiet (C := fun w' => Blk w' g4 75 [.string y1, .int .i64 y2] ∧ Blk w' g1 56 (ndL k m d t (.slice (some ⟨b, o, none⟩) es.length c)) ∧ True ∧ Fr No wr w') (by kernel_rfl) (by kernel_rfl) ⟨B4.no fd, b1.no (F8.no fd), trivial, F8.no fd⟩ ?_
            iterate 30 (first
              | ((with_reducible refine gate_q (N := 33) rfl ?_); refine quiet_call (a' := ?_) Try.func82 (by kernel_rfl) rfl #[.string y1] (by rfl) rfl (by simp only [List.map_toArray, List.map_cons, List.map_nil]; rfl) (fun w' hC' => (rname_any y1 w' (by omega)).mono (by rintro e w'' ⟨rfl, f⟩; rw [hnm]; exact ⟨rfl, hC'.1.no f, hC'.2.1.no f, trivial, hC'.2.2.2.no f⟩)) ?_ ?_; rotate_left; (simp only [Act.put, List.setIfInBounds_toArray, List.set_cons_zero, List.set_cons_succ]; rfl))
              | (go_big_quiet_step (fail))
              | (refine quiet_val (v := ?_) (a' := ?_) (by rfl) ?_ ?_ ?_; rotate_left; (rintro w' ⟨s0, s1, s2, s3⟩; have p0 := s0.at_ 0 rfl; have p1 := s0.at_ 1 rfl; have q4 := s1.at_ 4 rfl; go_simp; with_reducible rfl); rotate_left; (simp only [Act.put, List.setIfInBounds_toArray, List.set_cons_zero, List.set_cons_succ]; rfl)))
            refine wpQuiet_nil ?_
            rintro w' ⟨s0, s1, s2, fQ⟩
            go_wp2
            go_ret
            exact ⟨rfl, F.no fQ⟩
          | true =>
            by_cases hy1 : y2 < 1
            · have hd1 : decide (y2 < 1) = true := decide_eq_true hy1
              obtain rfl : x = false := HFIN.out (by rw [HOK.out, decide_eq_false (show ¬ 1 ≤ y2 by omega)]; simp)
              clear hy1
              go_wp2_with (first | ((with_reducible refine gate_dst (N := 4) rfl ?_); go_must (refine ev_alloc rfl 75 rfl _ [.string ⟨#[]⟩, .int .i64 0] zeroE rfl ?_); intro g4 w7 hg4 f7 b4) | ((with_reducible refine gate_store (t := 75) (p := 4) rfl ?_); go_must (refine ev_store_row rfl 75 _ _ rfl g4 #[.string y1, .int .i64 y2] rfl rfl 75 _ b4 sizeE rfl (by simp [Value.oneCell']) ?_); intro w8 s4 B4; have F8 := f7.one s4 (.inr hg4); clear f7 s4 b4))
              have fd := (Fr.refl No w8).drew
              refine region_quiet (C := fun w' => Blk w' g4 75 [.string y1, .int .i64 y2] ∧ Blk w' g1 56 (ndL k m d t (.slice (some ⟨b, o, none⟩) es.length c)) ∧ True ∧ Fr No wr w') (by kernel_rfl) (by kernel_rfl) ⟨B4.no fd, b1.no (F8.no fd), trivial, F8.no fd⟩ ?_
              iterate 30 (first
                | ((with_reducible refine gate_q (N := 33) rfl ?_); refine quiet_call (a' := ?_) Try.func82 (by kernel_rfl) rfl #[.string y1] (by rfl) rfl (by simp only [List.map_toArray, List.map_cons, List.map_nil]; rfl) (fun w' hC' => (rname_any y1 w' (by omega)).mono (by rintro e w'' ⟨rfl, f⟩; rw [hnm]; exact ⟨rfl, hC'.1.no f, hC'.2.1.no f, trivial, hC'.2.2.2.no f⟩)) ?_ ?_; rotate_left; (simp only [Act.put, List.setIfInBounds_toArray, List.set_cons_zero, List.set_cons_succ]; rfl))
                | (go_big_quiet_step (fail))
                | (refine quiet_val (v := ?_) (a' := ?_) (by rfl) ?_ ?_ ?_; rotate_left; (rintro w' ⟨s0, s1, s2, s3⟩; have p0 := s0.at_ 0 rfl; have p1 := s0.at_ 1 rfl; have q4 := s1.at_ 4 rfl; go_simp; with_reducible rfl); rotate_left; (simp only [Act.put, List.setIfInBounds_toArray, List.set_cons_zero, List.set_cons_succ]; rfl)))
              refine wpQuiet_nil ?_
              rintro w' ⟨s0, s1, s2, fQ⟩
              go_wp2
              go_ret
              exact ⟨rfl, F.no fQ⟩
            · have hd1 : decide (y2 < 1) = false := decide_eq_false hy1
              by_cases hy2 : 2147483647 < y2
              · have hd2 : decide (2147483647 < y2) = true := decide_eq_true hy2
                obtain rfl : x = false := HFIN.out (by rw [HOK.out, decide_eq_false (show ¬ y2 ≤ 2147483647 by omega)]; simp)
                clear hy1 hy2
                go_wp2_with (first | ((with_reducible refine gate_dst (N := 4) rfl ?_); go_must (refine ev_alloc rfl 75 rfl _ [.string ⟨#[]⟩, .int .i64 0] zeroE rfl ?_); intro g4 w7 hg4 f7 b4) | ((with_reducible refine gate_store (t := 75) (p := 4) rfl ?_); go_must (refine ev_store_row rfl 75 _ _ rfl g4 #[.string y1, .int .i64 y2] rfl rfl 75 _ b4 sizeE rfl (by simp [Value.oneCell']) ?_); intro w8 s4 B4; have F8 := f7.one s4 (.inr hg4); clear f7 s4 b4))
                have fd := (Fr.refl No w8).drew
                refine region_quiet (C := fun w' => Blk w' g4 75 [.string y1, .int .i64 y2] ∧ Blk w' g1 56 (ndL k m d t (.slice (some ⟨b, o, none⟩) es.length c)) ∧ True ∧ Fr No wr w') (by kernel_rfl) (by kernel_rfl) ⟨B4.no fd, b1.no (F8.no fd), trivial, F8.no fd⟩ ?_
                iterate 30 (first
                  | ((with_reducible refine gate_q (N := 33) rfl ?_); refine quiet_call (a' := ?_) Try.func82 (by kernel_rfl) rfl #[.string y1] (by rfl) rfl (by simp only [List.map_toArray, List.map_cons, List.map_nil]; rfl) (fun w' hC' => (rname_any y1 w' (by omega)).mono (by rintro e w'' ⟨rfl, f⟩; rw [hnm]; exact ⟨rfl, hC'.1.no f, hC'.2.1.no f, trivial, hC'.2.2.2.no f⟩)) ?_ ?_; rotate_left; (simp only [Act.put, List.setIfInBounds_toArray, List.set_cons_zero, List.set_cons_succ]; rfl))
                  | (go_big_quiet_step (fail))
                  | (refine quiet_val (v := ?_) (a' := ?_) (by rfl) ?_ ?_ ?_; rotate_left; (rintro w' ⟨s0, s1, s2, s3⟩; have p0 := s0.at_ 0 rfl; have p1 := s0.at_ 1 rfl; have q4 := s1.at_ 4 rfl; go_simp; with_reducible rfl); rotate_left; (simp only [Act.put, List.setIfInBounds_toArray, List.set_cons_zero, List.set_cons_succ]; rfl)))
                refine wpQuiet_nil ?_
                rintro w' ⟨s0, s1, s2, fQ⟩
                go_wp2
                go_ret
                exact ⟨rfl, F.no fQ⟩
              · have hd2 : decide (2147483647 < y2) = false := decide_eq_false hy2
                have hba : (nameB y1 && decide (1 ≤ y2) && decide (y2 ≤ 2147483647)) = true := by rw [hnm, decide_eq_true (show 1 ≤ y2 by omega), decide_eq_true (show y2 ≤ 2147483647 by omega)]; rfl
                by_cases hk0 : kk = 0
                · have hd3 : decide ((0 : Int) < (kk : Int)) = false := decide_eq_false (by omega)
                  have hd4 : decide (0 < kk) = false := decide_eq_false (by omega)
                  have hokt : okAt es kk = true := by rw [HOK.out, hba, beq_iff_eq.2 hk0]; rfl
                  clear hy1 hy2 hk0 hba
                  go_wp2_with (first | ((with_reducible refine gate_dst (N := 4) rfl ?_); go_must (refine ev_alloc rfl 75 rfl _ [.string ⟨#[]⟩, .int .i64 0] zeroE rfl ?_); intro g4 w7 hg4 f7 b4) | ((with_reducible refine gate_store (t := 75) (p := 4) rfl ?_); go_must (refine ev_store_row rfl 75 _ _ rfl g4 #[.string y1, .int .i64 y2] rfl rfl 75 _ b4 sizeE rfl (by simp [Value.oneCell']) ?_); intro w8 s4 B4; have F8 := f7.one s4 (.inr hg4); clear f7 s4 b4))
                  have fd := (Fr.refl No w8).drew
                  refine region_quiet (C := fun w' => Blk w' g4 75 [.string y1, .int .i64 y2] ∧ Blk w' g1 56 (ndL k m d t (.slice (some ⟨b, o, none⟩) es.length c)) ∧ True ∧ Fr No wr w') (by kernel_rfl) (by kernel_rfl) ⟨B4.no fd, b1.no (F8.no fd), trivial, F8.no fd⟩ ?_
                  iterate 30 (first
                    | ((with_reducible refine gate_q (N := 33) rfl ?_); refine quiet_call (a' := ?_) Try.func82 (by kernel_rfl) rfl #[.string y1] (by rfl) rfl (by simp only [List.map_toArray, List.map_cons, List.map_nil]; rfl) (fun w' hC' => (rname_any y1 w' (by omega)).mono (by rintro e w'' ⟨rfl, f⟩; rw [hnm]; exact ⟨rfl, hC'.1.no f, hC'.2.1.no f, trivial, hC'.2.2.2.no f⟩)) ?_ ?_; rotate_left; (simp only [Act.put, List.setIfInBounds_toArray, List.set_cons_zero, List.set_cons_succ]; rfl))
                    | (go_big_quiet_step (fail))
                    | (refine quiet_val (v := ?_) (a' := ?_) (by rfl) ?_ ?_ ?_; rotate_left; (rintro w' ⟨s0, s1, s2, s3⟩; have p0 := s0.at_ 0 rfl; have p1 := s0.at_ 1 rfl; have q4 := s1.at_ 4 rfl; go_simp; with_reducible rfl); rotate_left; (simp only [Act.put, List.setIfInBounds_toArray, List.set_cons_zero, List.set_cons_succ]; rfl)))
                  refine wpQuiet_nil ?_
                  rintro w' ⟨s0, s1, s2, fQ⟩
                  go_wp2_with fail
                  go_roundg (es.length - (kk + 1))
                  case measure => omega
                  case rel => exact ⟨kk + 1, by omega, by omega, by go_num, ⟨FW.out.no fQ⟩, ⟨HNXT.out hokt⟩⟩
                · have hd3 : decide ((0 : Int) < (kk : Int)) = true := decide_eq_true (by omega)
                  have hkb : (kk == 0) = false := beq_eq_false_iff_ne.2 hk0
                  have hk1 : (0 : Int) ≤ (kk : Int) - 1 := by omega
                  have hk2 : (kk : Int) - 1 < (es.length : Int) := by omega
                  have hk3 : ((kk : Int) - 1).toNat = kk - 1 := by omega
                  have hk4 : (kk : Int) - 1 ≤ 9223372036854775807 := by omega
                  have hkp : 0 < kk := by omega
                  have hk5 : (1 : Int) ≤ (kk : Int) := by omega
                  have hkw : IntKind.i64.wrap ((kk : Int) - 1) = (kk : Int) - 1 := by rw [IntKind.wrap_i64]; omega
                  cases hls : Op.bytesLess pr.toList y1.toList with
                  | false =>
                    obtain rfl : x = false := HFIN.out (by rw [HOK.out, hba, hkb, hls]; rfl)
                    clear hy1 hy2 hk0 hba
                    go_wp2_with (first | ((with_reducible refine gate_dst (N := 4) rfl ?_); go_must (refine ev_alloc rfl 75 rfl _ [.string ⟨#[]⟩, .int .i64 0] zeroE rfl ?_); intro g4 w7 hg4 f7 b4) | ((with_reducible refine gate_store (t := 75) (p := 4) rfl ?_); go_must (refine ev_store_row rfl 75 _ _ rfl g4 #[.string y1, .int .i64 y2] rfl rfl 75 _ b4 sizeE rfl (by simp [Value.oneCell']) ?_); intro w8 s4 B4; have F8 := f7.one s4 (.inr hg4); clear f7 s4 b4))
                    have fd := (Fr.refl No w8).drew
                    refine region_quiet (C := fun w' => Blk w' g4 75 [.string y1, .int .i64 y2] ∧ Blk w' g1 56 (ndL k m d t (.slice (some ⟨b, o, none⟩) es.length c)) ∧ w'.cell? ⟨b, o + (kk - 1) * 2, none⟩ = some (.string pr) ∧ Fr No wr w') (by kernel_rfl) (by kernel_rfl) ⟨B4.no fd, b1.no (F8.no fd), Fr.cell (LP.out hkp) (F8.no fd) (fun h => h), F8.no fd⟩ ?_
                    iterate 30 (first
                      | ((with_reducible refine gate_q (N := 33) rfl ?_); refine quiet_call (a' := ?_) Try.func82 (by kernel_rfl) rfl #[.string y1] (by rfl) rfl (by simp only [List.map_toArray, List.map_cons, List.map_nil]; rfl) (fun w' hC' => (rname_any y1 w' (by omega)).mono (by rintro e w'' ⟨rfl, f⟩; rw [hnm]; exact ⟨rfl, hC'.1.no f, hC'.2.1.no f, Fr.cell hC'.2.2.1 f (fun h => h), hC'.2.2.2.no f⟩)) ?_ ?_; rotate_left; (simp only [Act.put, List.setIfInBounds_toArray, List.set_cons_zero, List.set_cons_succ]; rfl))
                      | (go_big_quiet_step (fail))
                      | (refine quiet_val (v := ?_) (a' := ?_) (by rfl) ?_ ?_ ?_; rotate_left; (rintro w' ⟨s0, s1, s2, s3⟩; have p0 := s0.at_ 0 rfl; have p1 := s0.at_ 1 rfl; have q4 := s1.at_ 4 rfl; go_simp; with_reducible rfl); rotate_left; (simp only [Act.put, List.setIfInBounds_toArray, List.set_cons_zero, List.set_cons_succ]; rfl)))
                    refine wpQuiet_nil ?_
                    rintro w' ⟨s0, s1, s2, fQ⟩
                    go_wp2
                    go_ret
                    exact ⟨rfl, F.no fQ⟩
                  | true =>
                    have hokt : okAt es kk = true := by rw [HOK.out, hba, hkb, hls]; rfl
                    clear hy1 hy2 hk0 hba
                    go_wp2_with (first | ((with_reducible refine gate_dst (N := 4) rfl ?_); go_must (refine ev_alloc rfl 75 rfl _ [.string ⟨#[]⟩, .int .i64 0] zeroE rfl ?_); intro g4 w7 hg4 f7 b4) | ((with_reducible refine gate_store (t := 75) (p := 4) rfl ?_); go_must (refine ev_store_row rfl 75 _ _ rfl g4 #[.string y1, .int .i64 y2] rfl rfl 75 _ b4 sizeE rfl (by simp [Value.oneCell']) ?_); intro w8 s4 B4; have F8 := f7.one s4 (.inr hg4); clear f7 s4 b4))
                    have fd := (Fr.refl No w8).drew
                    refine region_quiet (C := fun w' => Blk w' g4 75 [.string y1, .int .i64 y2] ∧ Blk w' g1 56 (ndL k m d t (.slice (some ⟨b, o, none⟩) es.length c)) ∧ w'.cell? ⟨b, o + (kk - 1) * 2, none⟩ = some (.string pr) ∧ Fr No wr w') (by kernel_rfl) (by kernel_rfl) ⟨B4.no fd, b1.no (F8.no fd), Fr.cell (LP.out hkp) (F8.no fd) (fun h => h), F8.no fd⟩ ?_
                    iterate 30 (first
                      | ((with_reducible refine gate_q (N := 33) rfl ?_); refine quiet_call (a' := ?_) Try.func82 (by kernel_rfl) rfl #[.string y1] (by rfl) rfl (by simp only [List.map_toArray, List.map_cons, List.map_nil]; rfl) (fun w' hC' => (rname_any y1 w' (by omega)).mono (by rintro e w'' ⟨rfl, f⟩; rw [hnm]; exact ⟨rfl, hC'.1.no f, hC'.2.1.no f, Fr.cell hC'.2.2.1 f (fun h => h), hC'.2.2.2.no f⟩)) ?_ ?_; rotate_left; (simp only [Act.put, List.setIfInBounds_toArray, List.set_cons_zero, List.set_cons_succ]; rfl))
                      | (go_big_quiet_step (fail))
                      | (refine quiet_val (v := ?_) (a' := ?_) (by rfl) ?_ ?_ ?_; rotate_left; (rintro w' ⟨s0, s1, s2, s3⟩; have p0 := s0.at_ 0 rfl; have p1 := s0.at_ 1 rfl; have q4 := s1.at_ 4 rfl; go_simp; with_reducible rfl); rotate_left; (simp only [Act.put, List.setIfInBounds_toArray, List.set_cons_zero, List.set_cons_succ]; rfl)))
                    refine wpQuiet_nil ?_
                    rintro w' ⟨s0, s1, s2, fQ⟩
                    go_wp2_with fail
                    go_roundg (es.length - (kk + 1))
                    case measure => omega
                    case rel => exact ⟨kk + 1, by omega, by omega, by go_num, ⟨FW.out.no fQ⟩, ⟨HNXT.out hokt⟩⟩
        · have hltz : ¬ (kk : Int) < (es.length : Int) := by omega
          obtain rfl : kk = es.length := by omega
          have hrise : risingB es = true := by rw [risingB, List.all_eq_true.2 (fun j hj => N.out j (List.mem_range.1 hj)), decide_eq_true h64]; rfl
          have hres := right_tail (N := ⟨k, m, d, t, es⟩) (by simpa using hm) hrise
          rw [HX.out] at hres
          simp only at hres
          clear hrise N
          have c0 := b1.at_ 0 rfl
          have c2 := b1.at_ 2 rfl
          have c3 := b1.at_ 3 rfl
          have HLZ : (es.length = 0 ∧ (es.length : Int) = 0) ∨ (¬ es.length = 0 ∧ ¬ (es.length : Int) = 0) := by omega
          by_cases hk1 : k = 1
          · rcases emp t with ⟨t1, t2, t3⟩ | ⟨t1, t2, t3⟩
            · rcases HLZ with ⟨l1, l2⟩ | ⟨l1, l2⟩
              · by_cases hd : d.size ≤ 4096
                · have hdz : (d.size : Int) ≤ 4096 := by omega
                  obtain rfl : x = true := by rw [hres]; simp [hk1, t1, l1, hd]
                  clear hres
                  go_wp2_with fail
                  go_ret
                  exact ⟨rfl, F⟩
                · have hdz : ¬ (d.size : Int) ≤ 4096 := by omega
                  obtain rfl : x = false := by rw [hres]; simp [hk1, t1, l1, hd]
                  clear hres
                  go_wp2_with fail
                  go_ret
                  exact ⟨rfl, F⟩
              · skip
                obtain rfl : x = false := by rw [hres]; simp [hk1, t1, l1]
                clear hres
                go_wp2_with fail
                go_ret
                exact ⟨rfl, F⟩
            · skip
              obtain rfl : x = false := by rw [hres]; simp [hk1, t1]
              clear hres
              go_wp2_with fail
              go_ret
              exact ⟨rfl, F⟩
          · by_cases hk2 : k = 2
            · rcases emp t with ⟨t1, t2, t3⟩ | ⟨t1, t2, t3⟩
              · rcases emp d with ⟨d1, d2, d3⟩ | ⟨d1, d2, d3⟩
                · skip
                  obtain rfl : x = true := by rw [hres]; simp [hk2, t1, d1]
                  clear hres
                  go_wp2_with fail
                  go_ret
                  exact ⟨rfl, F⟩
                · skip
                  obtain rfl : x = false := by rw [hres]; simp [hk2, t1, d1]
                  clear hres
                  go_wp2_with fail
                  go_ret
                  exact ⟨rfl, F⟩
              · skip
                obtain rfl : x = false := by rw [hres]; simp [hk2, t1]
                clear hres
                go_wp2_with fail
                go_ret
                exact ⟨rfl, F⟩
            · by_cases hk3 : k = 3
              · rcases emp d with ⟨d1, d2, d3⟩ | ⟨d1, d2, d3⟩
                · rcases HLZ with ⟨l1, l2⟩ | ⟨l1, l2⟩
                  · by_cases ht1 : 1 ≤ t.size
                    · have ht1z : (1 : Int) ≤ (t.size : Int) := by omega
                      by_cases ht64 : t.size ≤ 64
                      · have ht64z : (t.size : Int) ≤ 64 := by omega
                        obtain rfl : x = true := by rw [hres]; simp [hk3, d1, l1, ht64]; omega
                        clear hres
                        go_wp2_with fail
                        go_ret
                        exact ⟨rfl, F⟩
                      · have ht64z : ¬ (t.size : Int) ≤ 64 := by omega
                        obtain rfl : x = false := by rw [hres]; simp [hk3, d1, l1, ht64]
                        clear hres
                        go_wp2_with fail
                        go_ret
                        exact ⟨rfl, F⟩
                    · have ht1z : ¬ (1 : Int) ≤ (t.size : Int) := by omega
                      obtain rfl : x = false := by rw [hres]; simp [hk3, d1, l1, show t.size = 0 by omega]
                      clear hres
                      go_wp2_with fail
                      go_ret
                      exact ⟨rfl, F⟩
                  · skip
                    obtain rfl : x = false := by rw [hres]; simp [hk3, d1, l1]
                    clear hres
                    go_wp2_with fail
                    go_ret
                    exact ⟨rfl, F⟩
                · skip
                  obtain rfl : x = false := by rw [hres]; simp [hk3, d1]
                  clear hres
                  go_wp2_with fail
                  go_ret
                  exact ⟨rfl, F⟩
              · skip
                obtain rfl : x = false := by rw [hres]; simp [hk1, hk2, hk3]
                clear hres
                go_wp2_with fail
                go_ret
                exact ⟨rfl, F⟩
    · have h64z : (64 : Int) < (es.length : Int) := by omega
      have hr := right_long (N := ⟨k, m, d, t, es⟩) (by simpa using h64)
      rw [HX.out] at hr
      subst hr
      go_enter Try.func48, Try.ntmps48
      go_wp2_with ((with_reducible refine gate_dst (N := 1) rfl ?_); refine ev_box rfl 56 _ rfl _ rfl (ndL k m d t (.slice A es.length c)) rfl ?_; intro g1 w1 hg1 f1 b1; have c1 := b1.at_ 1 rfl; have c4 := b1.at_ 4 rfl)
      go_ret
      exact ⟨rfl, f1⟩
end Go.Proofs.Ytenlokbfjajbbaa.Nd

/- The document's With, walked. Conditions: sizes are bounded, as written out. -/
set_option linter.unusedSimpArgs false
set_option linter.unusedVariables false
namespace Go.Proofs.Ytenlokbfjajbbaa.Nd
open Go Go.RowKit Go.Proofs.YtenlokbfjajbbaaW.PrintWords Go.Proofs.YtenlokbfjajbbaaW.PrintLast Go.Proofs.Ytenlokbfjajbbaa.Ev Go.Proofs.Ytenlokbfjajbbaa.Reg Go.Proofs.Ytenlokbfjajbbaa.Sb

/-- A row of entries stays as it is where a node's own cells are written. -/
theorem EntS.oneR {w w' : World} {v x : Value} {es : List Ent} {g : Nat} {t : TypeId} {k m : Int} {d s : ByteArray} (h : EntS w v es) (hx : ∀ z, x ≠ .int .i64 z) (b : Blk w g t (ndL k m d s x)) (f : Fr (One g) w w') : EntS w' v es := by
  obtain ⟨A, c, rfl, h1, h2, h3⟩ := h.out
  by_cases h0 : 0 < es.length
  · obtain ⟨bb, o, rfl, hb, hc⟩ := h3 h0
    refine h.keep f (fun b' _ ⟨o', n', c', e⟩ hh => ?_)
    cases e
    have hbg : bb = g := hh
    subst hbg
    obtain ⟨c0, c1⟩ := hc 0 h0
    rw [b.cell] at c0 c1
    match o, c0, c1 with
    | 0, c0, c1 => simp [ndL] at c0
    | 1, c0, c1 => simp [ndL] at c0
    | 2, c0, c1 => simp [ndL] at c1
    | 3, c0, c1 => simp [ndL] at c1; exact hx _ c1
    | 4, c0, c1 => simp [ndL] at c1
    | n + 5, c0, c1 => simp [ndL] at c0
  · exact ⟨⟨A, c, rfl, h1, h2, fun hp => absurd hp h0⟩⟩

theorem put_skip {e : Ent} : ∀ {xs : List Ent} (r : List Ent), (∀ x ∈ xs, geNm e.1 x = false) → putE (xs ++ r) e = xs ++ putE r e
  | [], r, _ => rfl
  | x :: xs, r, h => by
    have ih := put_skip (xs := xs) r (fun y hy => h y (List.mem_cons_of_mem _ hy))
    have hx := h x (by simp)
    simp only [putE, List.cons_append, List.takeWhile_cons, List.dropWhile_cons, hx, Bool.not_false, if_true] at ih ⊢
    rw [ih]
theorem put_snoc {e y : Ent} : ∀ {xs : List Ent}, xs.any (geNm e.1) = true → putE (xs ++ [y]) e = putE xs e ++ [y]
  | [], h => by simp at h
  | x :: xs, h => by
    cases hx : geNm e.1 x with
    | true => simp [putE, List.takeWhile_cons, List.dropWhile_cons, hx]
    | false =>
      rw [List.any_cons, hx, Bool.false_or] at h
      have ih := put_snoc (y := y) h
      simp only [putE, List.cons_append, List.takeWhile_cons, List.dropWhile_cons, hx, Bool.not_false, if_true] at ih ⊢
      rw [ih]
/-- What the loop has gathered. -/
def PutSt (es : List Ent) (e : Ent) (i : Nat) (dn : Bool) (l : List Ent) : Prop :=
  (dn = true → l = putE (es.take i) e ∧ (es.take i).any (geNm e.1) = true) ∧ (dn = false → l = es.take i ∧ ∀ x ∈ es.take i, geNm e.1 x = false)
theorem PutSt.start (es : List Ent) (e : Ent) : PutSt es e 0 false [] := ⟨fun h => (by cases h), fun _ => ⟨rfl, fun x hx => (by simp at hx)⟩⟩
theorem PutSt.len {es : List Ent} {e : Ent} {i : Nat} {dn : Bool} {l : List Ent} (h : PutSt es e i dn l) (hi : i ≤ es.length) : l.length ≤ i + 1 := by
  have hl : (es.take i).length = i := by rw [List.length_take]; omega
  cases dn with
  | true => rw [(h.1 rfl).1, put_len]; omega
  | false => rw [(h.2 rfl).1]; omega
theorem take_next {es : List Ent} {i : Nat} (hi : i < es.length) : es.take (i + 1) = es.take i ++ [es.getD i default] := by
  rw [List.take_add_one, List.getD_eq_getElem?_getD, List.getElem?_eq_getElem hi]; rfl
theorem PutSt.keep {es : List Ent} {e y : Ent} {i : Nat} {dn : Bool} {l : List Ent} (h : PutSt es e i dn l) (hi : i < es.length) (hy : es.getD i default = y) (hq : dn = true ∨ geNm e.1 y = false) : PutSt es e (i + 1) dn (l ++ [y]) := by
  rw [PutSt, take_next hi, hy]
  refine ⟨fun hd => ?_, fun hd => ?_⟩
  · obtain ⟨h1, h2⟩ := h.1 hd
    rw [h1, put_snoc h2]
    exact ⟨rfl, by rw [List.any_append, h2]; rfl⟩
  · obtain ⟨h1, h2⟩ := h.2 hd
    rw [h1]
    refine ⟨rfl, fun x hx => ?_⟩
    rcases List.mem_append.1 hx with hx | hx
    · exact h2 x hx
    · rcases hq with hq | hq
      · rw [hd] at hq; cases hq
      · rw [List.mem_singleton.1 hx]; exact hq
theorem PutSt.hit {es : List Ent} {e y : Ent} {i : Nat} {l : List Ent} (h : PutSt es e i false l) (hi : i < es.length) (hy : es.getD i default = y) (hq : geNm e.1 y = true) : PutSt es e (i + 1) true ((l ++ [e]) ++ [y]) := by
  obtain ⟨h1, h2⟩ := h.2 rfl
  rw [PutSt, take_next hi, hy]
  refine ⟨fun _ => ⟨?_, by rw [List.any_append]; simp [hq]⟩, fun hd => by cases hd⟩
  rw [h1, put_skip _ h2]
  simp [putE, List.takeWhile_cons, List.dropWhile_cons, hq]
theorem PutSt.done {es : List Ent} {e : Ent} {dn : Bool} {l : List Ent} (h : PutSt es e es.length dn l) : putE es e = if dn = true then l else l ++ [e] := by
  cases dn with
  | true =>
    have := (h.1 rfl).1
    rw [List.take_length] at this
    rw [if_pos rfl, this]
  | false =>
    obtain ⟨h1, h2⟩ := h.2 rfl
    rw [List.take_length] at h1 h2
    have := put_skip (e := e) [] h2
    rw [List.append_nil] at this
    rw [if_neg (by simp), this, h1]
    rfl

theorem own_snoc {w : World} {base c : Nat} {A : Option Addr} {l : List Ent} {e : Ent} (h : w.ownsRow base 75 2 (.slice A (l.length + 1) c) (l.length + 1) (entsV l ++ entV e)) : w.ownsRow base 75 2 (.slice A (l.length + 1) c) (l ++ [e]).length (entsV (l ++ [e])) := by
  rw [List.length_append, List.length_singleton, entsV_append]
  simpa [entsV] using h

set_option maxHeartbeats 4000000 in
set_option maxRecDepth 100000 in
theorem rwith_any (N : Nd) (v : Value) (n : ByteArray) (ino : Int) (W : World) (hs : EntS W v N.ents) (hz : n.size ≤ 1099511627776) :
    Calls Try.prog 44 #[ndV N v, .string n, .int .i64 ino] W fun e w' => Gives W (withN N n ino).1 (withN N n ino).2 e w' := by
  obtain ⟨R, hR⟩ : ∃ R, withN N n ino = R := ⟨_, rfl⟩
  rw [hR]
  unfold withN at hR
  obtain ⟨A, c, rfl, h1, h2, h3⟩ := hs.out
  obtain ⟨k, m, d, t, es⟩ := N
  have hs : EntS W (.slice A es.length c) es := hs
  have HS := Kp.mk hs
  have H3 := Kp.mk h3
  clear h3 hs
  obtain ⟨f1, f2, hfd⟩ : ∃ f1 f2, findN ⟨k, m, d, t, es⟩ n = (f1, f2) := ⟨_, _, rfl⟩
  have CF : Kp (∀ W, EntS W (.slice A es.length c) es → Calls Try.prog 42 #[.agg #[.int .i64 k, .int .i64 m, .string d, .string t, .slice A es.length c], .string n] W fun e w' => e = .returned (.tuple #[.int .i64 f1, .bool f2]) ∧ Fr No W w') := ⟨fun W h => by
    have h := rfind_any ⟨k, m, d, t, es⟩ _ n W h
    rw [hfd] at h
    exact h⟩
  rw [hfd] at hR
  simp only at hR
  clear hfd
  by_cases hk : k = 2
  · rw [if_neg (by simpa using hk)] at hR
    subst hk
    obtain ⟨nb, hnb⟩ : ∃ nb, nameB n = nb := ⟨_, rfl⟩
    rw [hnb] at hR
    have HNM := Kp.mk hnb
    clear hnb
    cases nb with
    | false =>
      rw [if_pos rfl] at hR
      subst hR
      go_enter Try.func44, Try.ntmps44
      go_wp2_with (first | ((with_reducible refine gate_dst (N := 3) rfl ?_); go_must (refine ev_box rfl 56 _ rfl _ rfl (ndL _ m d t (.slice A es.length c)) rfl ?_); intro g3 w3 hg3 f3 b3; have hl3 := b3.lt; have c0 := b3.at_ 0 rfl) | ((with_reducible refine gate_dst (N := 6) rfl ?_); go_must (refine ev_alloc rfl 56 rfl _ (ndL 0 0 ⟨#[]⟩ ⟨#[]⟩ (.slice none 0 0)) zeroNd rfl ?_); intro g6 w6 hg6 f6 b6; have b3 := b3.no f6; have c0 := b3.at_ 0 rfl; have c1 := b3.at_ 1 rfl; have c2 := b3.at_ 2 rfl; have c3 := b3.at_ 3 rfl; have c4 := b3.at_ 4 rfl; have F := f3.no f6) | (go_at_call 82; go_must (refine (rname_any n _ hz).mono ?_); rintro e w7 ⟨rfl, f7⟩; rw [HNM.out]; have b3 := b3.no f7; have b6 := b6.no f7; have F := F.no f7; have c0 := b3.at_ 0 rfl; have c1 := b3.at_ 1 rfl; have c2 := b3.at_ 2 rfl; have c3 := b3.at_ 3 rfl; have c4 := b3.at_ 4 rfl) | ((with_reducible refine gate_store (t := 56) (p := 6) rfl ?_); go_must (refine ev_store_row rfl 56 _ _ rfl g6 (ndL 0 0 ⟨#[]⟩ ⟨#[]⟩ (.slice none 0 0)).toArray rfl rfl 56 _ b6 sizeNd rfl (ndL_one _ _ _ _ rfl) ?_); intro wT fT bT))
      (refine bodyPost_ret (results_row_tmp rfl _ _ g6 _ _ _ rfl bT Try.underlying56 rfl sizeNd) rfl ⟨.slice none 0 0, rfl, EntS.nil _, ?_⟩; exact F.one fT (.inr (Nat.le_trans f3.size hg6)))
    | true =>
      rw [if_neg (by simp)] at hR
      cases f2 with
      | true =>
        rw [if_pos rfl] at hR
        subst hR
        go_enter Try.func44, Try.ntmps44
        go_wp2_with (first | ((with_reducible refine gate_dst (N := 3) rfl ?_); go_must (refine ev_box rfl 56 _ rfl _ rfl (ndL _ m d t (.slice A es.length c)) rfl ?_); intro g3 w3 hg3 f3 b3; have hl3 := b3.lt; have c0 := b3.at_ 0 rfl) | ((with_reducible refine gate_dst (N := 6) rfl ?_); go_must (refine ev_alloc rfl 56 rfl _ (ndL 0 0 ⟨#[]⟩ ⟨#[]⟩ (.slice none 0 0)) zeroNd rfl ?_); intro g6 w6 hg6 f6 b6; have b3 := b3.no f6; have c0 := b3.at_ 0 rfl; have c1 := b3.at_ 1 rfl; have c2 := b3.at_ 2 rfl; have c3 := b3.at_ 3 rfl; have c4 := b3.at_ 4 rfl; have F := f3.no f6) | (go_at_call 82; go_must (refine (rname_any n _ hz).mono ?_); rintro e w7 ⟨rfl, f7⟩; rw [HNM.out]; have b3 := b3.no f7; have b6 := b6.no f7; have F := F.no f7; have c0 := b3.at_ 0 rfl; have c1 := b3.at_ 1 rfl; have c2 := b3.at_ 2 rfl; have c3 := b3.at_ 3 rfl; have c4 := b3.at_ 4 rfl) | (go_at_call 42; go_must (refine (CF.out _ (HS.out.no F)).mono ?_); rintro e w8 ⟨rfl, f8⟩; have b3 := b3.no f8; have b6 := b6.no f8; have F := F.no f8; have c4 := b3.at_ 4 rfl) | ((with_reducible refine gate_store (t := 56) (p := 6) rfl ?_); go_must (refine ev_store_row rfl 56 _ _ rfl g6 (ndL 0 0 ⟨#[]⟩ ⟨#[]⟩ (.slice none 0 0)).toArray rfl rfl 56 _ b6 sizeNd rfl (ndL_one _ _ _ _ rfl) ?_); intro wT fT bT))
        (refine bodyPost_ret (results_row_tmp rfl _ _ g6 _ _ _ rfl bT Try.underlying56 rfl sizeNd) rfl ⟨.slice none 0 0, rfl, EntS.nil _, ?_⟩; exact F.one fT (.inr (Nat.le_trans f3.size hg6)))
      | false =>
        rw [if_neg (by simp)] at hR
        by_cases h64 : 64 ≤ es.length
        · rw [if_pos h64] at hR
          subst hR
          have h64z : (64 : Int) ≤ (es.length : Int) := by omega
          go_enter Try.func44, Try.ntmps44
          go_wp2_with (first | ((with_reducible refine gate_dst (N := 3) rfl ?_); go_must (refine ev_box rfl 56 _ rfl _ rfl (ndL _ m d t (.slice A es.length c)) rfl ?_); intro g3 w3 hg3 f3 b3; have hl3 := b3.lt; have c0 := b3.at_ 0 rfl) | ((with_reducible refine gate_dst (N := 6) rfl ?_); go_must (refine ev_alloc rfl 56 rfl _ (ndL 0 0 ⟨#[]⟩ ⟨#[]⟩ (.slice none 0 0)) zeroNd rfl ?_); intro g6 w6 hg6 f6 b6; have b3 := b3.no f6; have c0 := b3.at_ 0 rfl; have c1 := b3.at_ 1 rfl; have c2 := b3.at_ 2 rfl; have c3 := b3.at_ 3 rfl; have c4 := b3.at_ 4 rfl; have F := f3.no f6) | (go_at_call 82; go_must (refine (rname_any n _ hz).mono ?_); rintro e w7 ⟨rfl, f7⟩; rw [HNM.out]; have b3 := b3.no f7; have b6 := b6.no f7; have F := F.no f7; have c0 := b3.at_ 0 rfl; have c1 := b3.at_ 1 rfl; have c2 := b3.at_ 2 rfl; have c3 := b3.at_ 3 rfl; have c4 := b3.at_ 4 rfl) | (go_at_call 42; go_must (refine (CF.out _ (HS.out.no F)).mono ?_); rintro e w8 ⟨rfl, f8⟩; have b3 := b3.no f8; have b6 := b6.no f8; have F := F.no f8; have c4 := b3.at_ 4 rfl) | ((with_reducible refine gate_store (t := 56) (p := 6) rfl ?_); go_must (refine ev_store_row rfl 56 _ _ rfl g6 (ndL 0 0 ⟨#[]⟩ ⟨#[]⟩ (.slice none 0 0)).toArray rfl rfl 56 _ b6 sizeNd rfl (ndL_one _ _ _ _ rfl) ?_); intro wT fT bT))
          (refine bodyPost_ret (results_row_tmp rfl _ _ g6 _ _ _ rfl bT Try.underlying56 rfl sizeNd) rfl ⟨.slice none 0 0, rfl, EntS.nil _, ?_⟩; exact F.one fT (.inr (Nat.le_trans f3.size hg6)))
        · rw [if_neg h64] at hR
          subst hR
          have h64z : ¬ (64 : Int) ≤ (es.length : Int) := by omega
          go_enter Try.func44, Try.ntmps44
          go_wp2_with (first | ((with_reducible refine gate_dst (N := 3) rfl ?_); go_must (refine ev_box rfl 56 _ rfl _ rfl (ndL _ m d t (.slice A es.length c)) rfl ?_); intro g3 w3 hg3 f3 b3; have hl3 := b3.lt; have c0 := b3.at_ 0 rfl) | ((with_reducible refine gate_dst (N := 6) rfl ?_); go_must (refine ev_alloc rfl 56 rfl _ (ndL 0 0 ⟨#[]⟩ ⟨#[]⟩ (.slice none 0 0)) zeroNd rfl ?_); intro g6 w6 hg6 f6 b6; have b3 := b3.no f6; have c0 := b3.at_ 0 rfl; have c1 := b3.at_ 1 rfl; have c2 := b3.at_ 2 rfl; have c3 := b3.at_ 3 rfl; have c4 := b3.at_ 4 rfl; have F := f3.no f6) | (go_at_call 82; go_must (refine (rname_any n _ hz).mono ?_); rintro e w7 ⟨rfl, f7⟩; rw [HNM.out]; have b3 := b3.no f7; have b6 := b6.no f7; have F := F.no f7; have c0 := b3.at_ 0 rfl; have c1 := b3.at_ 1 rfl; have c2 := b3.at_ 2 rfl; have c3 := b3.at_ 3 rfl; have c4 := b3.at_ 4 rfl) | (go_at_call 42; go_must (refine (CF.out _ (HS.out.no F)).mono ?_); rintro e w8 ⟨rfl, f8⟩; have b3 := b3.no f8; have b6 := b6.no f8; have F := F.no f8; have c4 := b3.at_ 4 rfl))
          have hne : g6 ≠ g3 := fun h => by rw [h] at hg6; exact absurd hl3 (Nat.not_lt_of_le hg6)
          go_loopg [10, 11, 12] es.length (fun gg s10 s11 s12 wr => ∃ (i : Nat) (dn : Bool) (l : List Ent), i ≤ es.length ∧ es.length - i ≤ gg ∧ s11 = .bool dn ∧ s12 = .int .i64 i ∧ Kp (Fr No w8 wr) ∧ Kp (wr.ownsRow w8.heap.size 75 2 s10 l.length (entsV l)) ∧ Kp (PutSt es (n, ino) i dn l))
          case atStart => exact ⟨0, false, [], Nat.zero_le _, by omega, rfl, rfl, ⟨Fr.refl _ _⟩, ⟨own_nil _ _ _ _⟩, ⟨PutSt.start _ _⟩⟩
          case round =>
            obtain ⟨i, dn, l, hi, hg, rfl, rfl, FW, O, PS⟩ := hrel
            have hll : l.length ≤ 64 := by have := PS.out.len hi; omega
            have FC := FW.out
            have OC := O.out
            have b3c := b3.no FC
            have c4 := b3c.at_ 4 rfl
            by_cases hlt : i < es.length
            · have hltz : (i : Int) < (es.length : Int) := by omega
              obtain ⟨b, o, rfl, hb, hcc⟩ := H3.out (by omega)
              have k1 := Fr.cell (hcc i hlt).1 F (fun h => h)
              have k2 := Fr.cell (hcc i hlt).2 F (fun h => h)
              clear hcc
              obtain ⟨y, hy⟩ : ∃ y, es.getD i default = y := ⟨_, rfl⟩
              rw [hy] at k1 k2
              have HY := Kp.mk hy
              clear hy
              obtain ⟨y1, y2⟩ := y
              simp only at k1 k2
              have m1 := Fr.cell k1 FC (fun h => h)
              have m2 := Fr.cell k2 FC (fun h => h)
              cases dn with
              | true =>
                have PN := Kp.mk (PS.out.keep hlt HY.out (.inl rfl))
                clear PS O
                go_wp2_with (first | ((with_reducible refine gate_dst (N := 65) rfl ?_); go_must (refine ev_lit rfl 75 [.string y1, .int .i64 y2] 1 (by first | (go_simp; done) | (go_simp; rfl)) ?_); intro g65 w65 hg65 f65 b65; have FC := FC.no f65; have OC := own_no OC f65) | ((with_reducible refine gate_dst (N := 66) rfl ?_); go_must (refine ev_append rfl (.tmp 59) (.tmp 65) 54 75 _ 2 24 rfl Try.underlying54 infoE rfl (by decide) (by decide) w8.heap.size _ (l).length (entsV (l)) rfl OC FC.size ⟨g65, 0, none⟩ 1 1 (entV (y1, y2)) rfl rfl (news_blk b65) (by simp [entV, Value.oneCell']) (by have h := hll; first | omega | (simp only [List.length_append, List.length_singleton]; omega)) ?_); intro A66 c66 w66 o66 f66 hat66; have FC := FC.trans f66 (fun q hq => .inr (own_new_base OC q hq)); have OC := own_snoc o66; have m1 := Fr.cell k1 FC (fun h => h); have m2 := Fr.cell k2 FC (fun h => h); have b3c := b3.no FC; have c4 := b3c.at_ 4 rfl))
                go_roundg (es.length - (i + 1))
                case measure => omega
                case rel => exact ⟨i + 1, true, l ++ [(y1, y2)], by omega, by omega, rfl, by go_num, ⟨FC⟩, ⟨OC⟩, PN⟩
              | false =>
                cases hls : Op.bytesLess y1.toList n.toList with
                | true =>
                  have PN := Kp.mk (PS.out.keep hlt HY.out (.inr (by simp [geNm, hls])))
                  clear PS O
                  go_wp2_with (first | ((with_reducible refine gate_dst (N := 65) rfl ?_); go_must (refine ev_lit rfl 75 [.string y1, .int .i64 y2] 1 (by first | (go_simp; done) | (go_simp; rfl)) ?_); intro g65 w65 hg65 f65 b65; have FC := FC.no f65; have OC := own_no OC f65) | ((with_reducible refine gate_dst (N := 66) rfl ?_); go_must (refine ev_append rfl (.tmp 59) (.tmp 65) 54 75 _ 2 24 rfl Try.underlying54 infoE rfl (by decide) (by decide) w8.heap.size _ (l).length (entsV (l)) rfl OC FC.size ⟨g65, 0, none⟩ 1 1 (entV (y1, y2)) rfl rfl (news_blk b65) (by simp [entV, Value.oneCell']) (by have h := hll; first | omega | (simp only [List.length_append, List.length_singleton]; omega)) ?_); intro A66 c66 w66 o66 f66 hat66; have FC := FC.trans f66 (fun q hq => .inr (own_new_base OC q hq)); have OC := own_snoc o66; have m1 := Fr.cell k1 FC (fun h => h); have m2 := Fr.cell k2 FC (fun h => h); have b3c := b3.no FC; have c4 := b3c.at_ 4 rfl))
                  go_roundg (es.length - (i + 1))
                  case measure => omega
                  case rel => exact ⟨i + 1, false, l ++ [(y1, y2)], by omega, by omega, rfl, by go_num, ⟨FC⟩, ⟨OC⟩, PN⟩
                | false =>
                  have PN := Kp.mk (PS.out.hit hlt HY.out (by simp [geNm, hls]))
                  clear PS O
                  go_wp2_with (first | ((with_reducible refine gate_dst (N := 57) rfl ?_); go_must (refine ev_lit rfl 75 [.string n, .int .i64 ino] 1 (by first | (go_simp; done) | (go_simp; rfl)) ?_); intro g57 w57 hg57 f57 b57; have FC := FC.no f57; have OC := own_no OC f57) | ((with_reducible refine gate_dst (N := 58) rfl ?_); go_must (refine ev_append rfl (.tmp 53) (.tmp 57) 54 75 _ 2 24 rfl Try.underlying54 infoE rfl (by decide) (by decide) w8.heap.size _ (l).length (entsV (l)) rfl OC FC.size ⟨g57, 0, none⟩ 1 1 (entV (n, ino)) rfl rfl (news_blk b57) (by simp [entV, Value.oneCell']) (by have h := hll; first | omega | (simp only [List.length_append, List.length_singleton]; omega)) ?_); intro A58 c58 w58 o58 f58 hat58; have FC := FC.trans f58 (fun q hq => .inr (own_new_base OC q hq)); have OC := own_snoc o58; have m1 := Fr.cell k1 FC (fun h => h); have m2 := Fr.cell k2 FC (fun h => h); have b3c := b3.no FC; have c4 := b3c.at_ 4 rfl) | ((with_reducible refine gate_dst (N := 65) rfl ?_); go_must (refine ev_lit rfl 75 [.string y1, .int .i64 y2] 1 (by first | (go_simp; done) | (go_simp; rfl)) ?_); intro g65 w65 hg65 f65 b65; have FC := FC.no f65; have OC := own_no OC f65) | ((with_reducible refine gate_dst (N := 66) rfl ?_); go_must (refine ev_append rfl (.tmp 59) (.tmp 65) 54 75 _ 2 24 rfl Try.underlying54 infoE rfl (by decide) (by decide) w8.heap.size _ (l ++ [(n, ino)]).length (entsV (l ++ [(n, ino)])) rfl OC FC.size ⟨g65, 0, none⟩ 1 1 (entV (y1, y2)) rfl rfl (news_blk b65) (by simp [entV, Value.oneCell']) (by have h := hll; first | omega | (simp only [List.length_append, List.length_singleton]; omega)) ?_); intro A66 c66 w66 o66 f66 hat66; have FC := FC.trans f66 (fun q hq => .inr (own_new_base OC q hq)); have OC := own_snoc o66; have m1 := Fr.cell k1 FC (fun h => h); have m2 := Fr.cell k2 FC (fun h => h); have b3c := b3.no FC; have c4 := b3c.at_ 4 rfl))
                  go_roundg (es.length - (i + 1))
                  case measure => omega
                  case rel => exact ⟨i + 1, true, (l ++ [(n, ino)]) ++ [(y1, y2)], by omega, by omega, rfl, by go_num, ⟨FC⟩, ⟨by have h := OC; simp only [List.length_append, List.length_singleton] at h ⊢; exact h⟩, PN⟩
            · have hltz : ¬ (i : Int) < (es.length : Int) := by omega
              obtain rfl : i = es.length := by omega
              have h36 : g6 ≠ g3 := hne
              have hdone := PS.out.done
              cases dn with
              | true =>
                rw [if_pos rfl] at hdone
                have HD := Kp.mk hdone
                clear hdone
                have E := own_ents OC rfl
                clear PS O
                go_wp2_with (first | ((with_reducible refine gate_store (t := 54) (p := 76) rfl ?_); go_must (refine ev_store rfl 54 _ _ rfl g3 4 u10 rfl rfl E.one 56 _ b3c (by simp) sizeEs ?_); intro wS fS bS) | ((with_reducible refine gate_dst (N := 77) rfl ?_); go_must (refine ev_load_row rfl 56 _ rfl g3 rfl 56 _ bS _ Try.underlying56 rfl sizeNd ?_)) | ((with_reducible refine gate_store (t := 56) (p := 6) rfl ?_); go_must (refine ev_store_row rfl 56 _ _ rfl g6 (ndL 2 m d t u10).toArray rfl rfl 56 _ ((b6.no FC).one fS h36) sizeNd rfl (ndL_one _ _ _ _ E.one) ?_); intro wT fT bT))
                refine bodyPost_ret (results_row_tmp rfl _ _ g6 _ _ _ rfl bT Try.underlying56 rfl sizeNd) rfl ⟨u10, rfl, ?_, ?_⟩
                · show EntS _ _ (putE es (n, ino))
                  rw [HD.out]
                  exact EntS.oneR (EntS.oneR E (fun z h => by cases h) b3c fS) (fun z h => by cases h) ((b6.no FC).one fS h36) fT
                · exact ((F.no FC).one fS (.inr hg3)).one fT (.inr (Nat.le_trans f3.size hg6))
              | false =>
                rw [if_neg (by simp)] at hdone
                have HD := Kp.mk hdone
                clear hdone
                clear PS O
                go_wp2_with (first | ((with_reducible refine gate_dst (N := 73) rfl ?_); go_must (refine ev_lit rfl 75 [.string n, .int .i64 ino] 1 (by first | (go_simp; done) | (go_simp; rfl)) ?_); intro g73 w73 hg73 f73 b73; have FC := FC.no f73; have OC := own_no OC f73) | ((with_reducible refine gate_dst (N := 74) rfl ?_); go_must (refine ev_append rfl (.tmp 69) (.tmp 73) 54 75 _ 2 24 rfl Try.underlying54 infoE rfl (by decide) (by decide) w8.heap.size _ l.length (entsV l) rfl OC FC.size ⟨g73, 0, none⟩ 1 1 (entV (n, ino)) rfl rfl (news_blk b73) (by simp [entV, Value.oneCell']) (by have h := hll; omega) ?_); intro A74 c74 w74 o74 f74 hat74; have FC := FC.trans f74 (fun q hq => .inr (own_new_base OC q hq)); have OC := own_snoc o74; have E := own_ents OC rfl; have b3c := b3.no FC) | ((with_reducible refine gate_store (t := 54) (p := 76) rfl ?_); go_must (refine ev_store rfl 54 _ _ rfl g3 4 (.slice A74 (l.length + 1) c74) rfl rfl E.one 56 _ b3c (by simp) sizeEs ?_); intro wS fS bS) | ((with_reducible refine gate_dst (N := 77) rfl ?_); go_must (refine ev_load_row rfl 56 _ rfl g3 rfl 56 _ bS _ Try.underlying56 rfl sizeNd ?_)) | ((with_reducible refine gate_store (t := 56) (p := 6) rfl ?_); go_must (refine ev_store_row rfl 56 _ _ rfl g6 (ndL 2 m d t (.slice A74 (l.length + 1) c74)).toArray rfl rfl 56 _ ((b6.no FC).one fS h36) sizeNd rfl (ndL_one _ _ _ _ E.one) ?_); intro wT fT bT))
                refine bodyPost_ret (results_row_tmp rfl _ _ g6 _ _ _ rfl bT Try.underlying56 rfl sizeNd) rfl ⟨.slice A74 (l.length + 1) c74, rfl, ?_, ?_⟩
                · show EntS _ _ (putE es (n, ino))
                  rw [HD.out]
                  exact EntS.oneR (EntS.oneR E (fun z h => by cases h) b3c fS) (fun z h => by cases h) ((b6.no FC).one fS h36) fT
                · exact ((F.no FC).one fS (.inr hg3)).one fT (.inr (Nat.le_trans f3.size hg6))
  · rw [if_pos (by simpa using hk)] at hR
    subst hR
    go_enter Try.func44, Try.ntmps44
    go_wp2_with (first | ((with_reducible refine gate_dst (N := 3) rfl ?_); go_must (refine ev_box rfl 56 _ rfl _ rfl (ndL _ m d t (.slice A es.length c)) rfl ?_); intro g3 w3 hg3 f3 b3; have hl3 := b3.lt; have c0 := b3.at_ 0 rfl) | ((with_reducible refine gate_dst (N := 6) rfl ?_); go_must (refine ev_alloc rfl 56 rfl _ (ndL 0 0 ⟨#[]⟩ ⟨#[]⟩ (.slice none 0 0)) zeroNd rfl ?_); intro g6 w6 hg6 f6 b6; have b3 := b3.no f6; have c0 := b3.at_ 0 rfl; have c1 := b3.at_ 1 rfl; have c2 := b3.at_ 2 rfl; have c3 := b3.at_ 3 rfl; have c4 := b3.at_ 4 rfl; have F := f3.no f6) | ((with_reducible refine gate_store (t := 56) (p := 6) rfl ?_); go_must (refine ev_store_row rfl 56 _ _ rfl g6 (ndL 0 0 ⟨#[]⟩ ⟨#[]⟩ (.slice none 0 0)).toArray rfl rfl 56 _ b6 sizeNd rfl (ndL_one _ _ _ _ rfl) ?_); intro wT fT bT))
    (refine bodyPost_ret (results_row_tmp rfl _ _ g6 _ _ _ rfl bT Try.underlying56 rfl sizeNd) rfl ⟨.slice none 0 0, rfl, EntS.nil _, ?_⟩; exact F.one fT (.inr (Nat.le_trans f3.size hg6)))
end Go.Proofs.Ytenlokbfjajbbaa.Nd

/- The document's number and Print, walked. Conditions: sizes are bounded, as written out. -/
set_option linter.unusedSimpArgs false
set_option linter.unusedVariables false
namespace Go.Proofs.Ytenlokbfjajbbaa.Nd
open Go Go.RowKit Go.Proofs.YtenlokbfjajbbaaW.PrintWords Go.Proofs.Ytenlokbfjajbbaa.Ev Go.Proofs.Ytenlokbfjajbbaa.Reg Go.Proofs.Ytenlokbfjajbbaa.Sb

/-- A number's bytes, so many. -/
def numR : Nat → Int → List UInt8
  | 0, _ => []
  | n + 1, v => numR n (v / 256) ++ [b1 v]
theorem numR_len : ∀ n v, (numR n v).length = n
  | 0, _ => rfl
  | n + 1, v => by rw [numR, List.length_append, numR_len n]; rfl

set_option maxHeartbeats 2000000 in
theorem number_any (v : Int) (n : Nat) (W : World) (h0 : 0 ≤ v) (h1 : v ≤ 1099511627776) (hn : n ≤ 4) :
    Calls Try.prog 75 #[.int .i64 v, .int .i64 (n : Int)] W fun e w' => e = .returned (.string (bs (numR n v))) ∧ Fr No W w' := by
  obtain ⟨R, hR⟩ : ∃ R, numR n v = R := ⟨_, rfl⟩
  rw [hR]
  go_enter Try.func75, Try.ntmps75
  go_wp2_with fail
  go_loopg [0, 5, 6] n (fun gg s0 s5 s6 wr => ∃ (i : Nat) (z : Int) (l : List UInt8), i ≤ n ∧ n - i ≤ gg ∧ 0 ≤ z ∧ z ≤ 1099511627776 ∧ s0 = .int .i64 z ∧ s5 = .string (bs l) ∧ s6 = .int .i64 i ∧ Kp (Fr No W wr) ∧ Kp (numR (n - i) z ++ l = R) ∧ Kp (l.length = i))
  case atStart => exact ⟨0, v, [], Nat.zero_le _, by omega, h0, h1, rfl, rfl, rfl, ⟨Fr.refl _ _⟩, ⟨by rw [List.append_nil]; exact hR⟩, ⟨rfl⟩⟩
  case round =>
    obtain ⟨i, z, l, hi, hg, z0, z1, rfl, rfl, rfl, F, HR, HL⟩ := hrel
    by_cases hlt : i < n
    · have hltz : (i : Int) < (n : Int) := by omega
      have hm : z.tmod 256 = z % 256 := Int.tmod_eq_emod_of_nonneg z0
      have hd : z.tdiv 256 = z / 256 := Int.tdiv_eq_ediv_of_nonneg z0
      have hu : [Value.int .u8 (z % 256)] = u8s [Nd.b1 z] := by simp [u8s, b1_nat]
      have HU := Kp.mk hu
      have hnx : Kp (numR (n - (i + 1)) (z / 256) ++ (Nd.b1 z :: l) = R) := ⟨by
        rw [← HR.out, show n - i = (n - (i + 1)) + 1 by omega, numR]
        simp⟩
      have hcat : Kp (bs [Nd.b1 z] ++ bs l = bs (Nd.b1 z :: l)) := ⟨by rw [bs_append]; rfl⟩
      have hll : l.length < 5 := by rw [HL.out]; omega
      have hs2 : (bs l).size < 5 := by rw [bs_size, HL.out]; omega
      have hz2 : 0 ≤ z / 256 := by omega
      have hz3 : z / 256 ≤ 1099511627776 := by omega
      clear hu
      go_wp2_with (first
        | ((with_reducible refine gate_dst (N := 15) rfl ?_); go_must (refine ev_lit rfl 5 [.int .u8 (z % 256)] 1 (by first | (go_simp; done) | (go_simp; rfl)) ?_); intro g15 w15 hg15 f15 b15)
        | ((with_reducible refine gate_dst (N := 16) rfl ?_); go_must (refine ev_str rfl 43 9 5 (.tmp 15) rfl Try.underlying43 Try.underlying5 Try.underlying9 0 _ 1 5 [Nd.b1 z] rfl (Blk.owns (by have := b15; rw [HU.out] at this; exact this) rfl (by simp [maxLen]) (Nat.zero_le _)) ?_)))
      go_roundg (n - (i + 1))
      case measure => omega
      case rel => exact ⟨i + 1, z / 256, Nd.b1 z :: l, by omega, by omega, hz2, hz3, by go_num, by rw [← hcat.out], by go_num, ⟨F.out.no f15⟩, hnx, ⟨by rw [List.length_cons, HL.out]⟩⟩
    · have hltz : ¬ (i : Int) < (n : Int) := by omega
      obtain rfl : i = n := by omega
      have hl : l = R := by rw [← HR.out, Nat.sub_self]; rfl
      subst hl
      go_wp2_with fail
      go_ret
      exact ⟨rfl, F.out⟩
end Go.Proofs.Ytenlokbfjajbbaa.Nd

/- The document's Print, walked. Conditions: the names' sizes are bounded, as written out. -/
set_option linter.unusedSimpArgs false
set_option linter.unusedVariables false
namespace Go.Proofs.Ytenlokbfjajbbaa.Nd
open Go Go.RowKit Go.Proofs.YtenlokbfjajbbaaW.PrintWords Go.Proofs.Ytenlokbfjajbbaa.Ev Go.Proofs.Ytenlokbfjajbbaa.Reg Go.Proofs.Ytenlokbfjajbbaa.Sb

theorem num1 (z : Int) : numR 1 z = [b1 z] := rfl
theorem num2 (z : Int) : numR 2 z = [b1 (z / 256), b1 z] := rfl
theorem num4 (z : Int) : numR 4 z = b4 z := by
  have e1 : z / 256 / 256 = z / 65536 := by omega
  have e2 : z / 256 / 256 / 256 = z / 16777216 := by omega
  show [b1 (z / 256 / 256 / 256), b1 (z / 256 / 256), b1 (z / 256), b1 z] = b4 z
  rw [e2, e1]; rfl
theorem right_more {N : Nd} (h : rightB N = true) : 1 ≤ N.kind ∧ N.kind ≤ 3 ∧ 0 ≤ N.mode ∧ N.mode ≤ 511 ∧ N.data.size ≤ 4096 ∧ N.target.size ≤ 64 ∧ N.ents.length ≤ 64 ∧ ∀ e ∈ N.ents, e.1.size ≤ 16 ∧ 1 ≤ e.2 ∧ e.2 ≤ 2147483647 := by
  unfold rightB at h
  split at h
  · cases h
  · rename_i hm
    split at h
    · simp only [Bool.and_eq_true, decide_eq_true_eq] at h
      have he := List.eq_nil_of_length_eq_zero h.1.2
      rw [he]
      exact ⟨by omega, by omega, by omega, by omega, by omega, by omega, by simp, by simp⟩
    · split at h
      · simp only [Bool.and_eq_true, decide_eq_true_eq] at h
        obtain ⟨r1, r2, r3⟩ := (rising_iff _).1 h.2
        refine ⟨by omega, by omega, by omega, by omega, by omega, by omega, r3, fun e he => ?_⟩
        have := r1 e he
        simp only [okE, nameB, Bool.and_eq_true, decide_eq_true_eq] at this
        omega
      · split at h
        · simp only [Bool.and_eq_true, decide_eq_true_eq] at h
          have he := List.eq_nil_of_length_eq_zero h.1.1.2
          rw [he]
          exact ⟨by omega, by omega, by omega, by omega, by omega, by omega, by simp, by simp⟩
        · cases h

set_option maxHeartbeats 4000000 in
set_option maxRecDepth 100000 in
theorem rprint_any (N : Nd) (v : Value) (W : World) (hs : EntS W v N.ents) (hz : Small N.ents) :
    Calls Try.prog 38 #[ndV N v] W fun e w' => e = .returned (.tuple #[.string (printN N).1, .int .i64 (printN N).2]) ∧ Fr No W w' := by
  obtain ⟨A, c, rfl, h1, h2, h3⟩ := hs.out
  obtain ⟨k, m, d, t, es⟩ := N
  have hs : EntS W (.slice A es.length c) es := hs
  have HS := Kp.mk hs
  have H3 := Kp.mk h3
  have hlm : (es.length : Int) ≤ 9223372036854775807 := by have : es.length ≤ c := h1; omega
  obtain ⟨b, hb⟩ : ∃ b, rightB ⟨k, m, d, t, es⟩ = b := ⟨_, rfl⟩
  have CR : Kp (∀ W, EntS W (.slice A es.length c) es → Calls Try.prog 48 #[.agg #[.int .i64 k, .int .i64 m, .string d, .string t, .slice A es.length c]] W fun e w' => e = .returned (.bool b) ∧ Fr No W w') := ⟨fun W h => by
    have h := rright_any ⟨k, m, d, t, es⟩ _ W h hz
    rw [hb] at h
    exact h⟩
  clear hs h3 hz
  cases b with
  | false =>
    have hp : printN ⟨k, m, d, t, es⟩ = (⟨#[]⟩, 2) := by rw [printN, if_neg (by rw [hb]; simp)]
    rw [hp]
    clear hp hb
    go_enter Try.func38, Try.ntmps38
    go_wp2_with (first
      | ((with_reducible refine gate_dst (N := 1) rfl ?_); go_must (refine ev_box rfl 56 _ rfl _ rfl (ndL k m d t (.slice A es.length c)) rfl ?_); intro g1 w1 hg1 f1 b1; have c0 := b1.at_ 0 rfl; have c1 := b1.at_ 1 rfl; have c2 := b1.at_ 2 rfl; have c3 := b1.at_ 3 rfl; have c4 := b1.at_ 4 rfl)
      | (go_at_call 48; go_must (refine (CR.out _ (HS.out.no f1)).mono ?_); rintro e w2 ⟨rfl, f2⟩))
    go_ret2
    exact ⟨rfl, f1.no f2⟩
  | true =>
    have hp : printN ⟨k, m, d, t, es⟩ = (bs (printL ⟨k, m, d, t, es⟩), 0) := by rw [printN, if_pos hb]
    rw [hp]
    obtain ⟨q1, q2, q3, q4, q5, q6, q7, q8⟩ := right_more hb
    simp only at q1 q2 q3 q4 q5 q6 q7 q8
    obtain ⟨R, hR⟩ : ∃ R, printL ⟨k, m, d, t, es⟩ = R := ⟨_, rfl⟩
    rw [hR]
    have HR := Kp.mk hR
    have HE := Kp.mk q8
    clear hp hb hR q8
    obtain ⟨H, hH⟩ : ∃ H, H = [b1 k] ++ [b1 (m / 256), b1 m] ++ d.data.toList ++ t.data.toList := ⟨_, rfl⟩
    have hHR : Kp (R = H ++ es.flatMap printE) := ⟨by rw [← HR.out, hH]; simp [printL]⟩
    have hHl : H.length ≤ 4163 := by
      have e1 : d.data.toList.length = d.size := by rw [Lib.size_eq]
      have e2 : t.data.toList.length = t.size := by rw [Lib.size_eq]
      rw [hH]
      simp only [List.length_append, List.length_cons, List.length_nil, e1, e2]
      omega
    have hHs : Kp (bs (numR 1 k) ++ bs (numR 2 m) ++ d ++ t = bs H) := ⟨by
      rw [hH, num1, num2, bs_append, ← bs_of d, bs_append, ← bs_of t, bs_append]⟩
    have n1 : (numR 1 k).length = 1 := numR_len _ _
    have n2 : (numR 2 m).length = 2 := numR_len _ _
    clear hH HR
    go_enter Try.func38, Try.ntmps38
    go_wp2_with (first
      | ((with_reducible refine gate_dst (N := 1) rfl ?_); go_must (refine ev_box rfl 56 _ rfl _ rfl (ndL k m d t (.slice A es.length c)) rfl ?_); intro g1 w1 hg1 f1 b1; have c0 := b1.at_ 0 rfl; have c1 := b1.at_ 1 rfl; have c2 := b1.at_ 2 rfl; have c3 := b1.at_ 3 rfl; have c4 := b1.at_ 4 rfl)
      | (go_at_call 48; go_must (refine (CR.out _ (HS.out.no f1)).mono ?_); rintro e w2 ⟨rfl, f2⟩; have b1 := b1.no f2))
    have F2 := f1.no f2
    have fd := (Fr.refl No w2).drew
    refine region_quiet (C := fun w' => Blk w' g1 56 (ndL k m d t (.slice A es.length c)) ∧ True ∧ True ∧ Fr No w2 w') (by kernel_rfl) (by kernel_rfl) ⟨b1.no fd, trivial, trivial, fd⟩ ?_
    iterate 14 (first
      | ((with_reducible refine gate_q (N := 11) rfl ?_); refine quiet_call (a' := ?_) Try.func75 (by kernel_rfl) rfl #[.int .i64 k, .int .i64 ((1 : Nat) : Int)] (by rfl) rfl (by simp only [List.map_toArray, List.map_cons, List.map_nil]; rfl) (fun w' hC' => (number_any k 1 w' (by omega) (by omega) (by decide)).mono (by rintro e w'' ⟨rfl, f⟩; exact ⟨rfl, hC'.1.no f, trivial, trivial, hC'.2.2.2.no f⟩)) ?_ ?_; rotate_left; (simp only [Act.put, List.setIfInBounds_toArray, List.set_cons_zero, List.set_cons_succ]; rfl))
      | ((with_reducible refine gate_q (N := 14) rfl ?_); refine quiet_call (a' := ?_) Try.func75 (by kernel_rfl) rfl #[.int .i64 m, .int .i64 ((2 : Nat) : Int)] (by rfl) rfl (by simp only [List.map_toArray, List.map_cons, List.map_nil]; rfl) (fun w' hC' => (number_any m 2 w' (by omega) (by omega) (by decide)).mono (by rintro e w'' ⟨rfl, f⟩; exact ⟨rfl, hC'.1.no f, trivial, trivial, hC'.2.2.2.no f⟩)) ?_ ?_; rotate_left; (simp only [Act.put, List.setIfInBounds_toArray, List.set_cons_zero, List.set_cons_succ]; rfl))
      | (go_big_quiet_step (fail))
      | (refine quiet_val (v := ?_) (a' := ?_) (by rfl) ?_ ?_ ?_; rotate_left; (focus (rintro w' ⟨s0, s1, s2, s3⟩; have q0 := s0.at_ 0 rfl; have q1 := s0.at_ 1 rfl; have q2 := s0.at_ 2 rfl; have q3 := s0.at_ 3 rfl; have q4 := s0.at_ 4 rfl; go_simp; first | done | with_reducible rfl | (rw [if_neg (by omega)]; done) | (rw [if_neg (by omega)]; with_reducible rfl))); rotate_left; (simp only [Act.put, List.setIfInBounds_toArray, List.set_cons_zero, List.set_cons_succ]; rfl)))
    refine wpQuiet_nil ?_
    rintro w3 ⟨b1, _, _, f3⟩
    have c4 := b1.at_ 4 rfl
    rw [hHs.out]
    have F3 := F2.no f3
    clear c4 fd hHs n1 n2 f3
    go_wp2_with fail
    go_loopg [4, 5] es.length (fun gg s4 s5 wr => ∃ (i : Nat) (l : List UInt8), i ≤ es.length ∧ es.length - i ≤ gg ∧ s4 = .string (bs l) ∧ s5 = .int .i64 i ∧ Kp (Fr No w3 wr) ∧ Kp (l = H ++ (es.take i).flatMap printE) ∧ Kp (l.length ≤ 4163 + i * 21))
    case atStart => exact ⟨0, H, Nat.zero_le _, by omega, rfl, rfl, ⟨Fr.refl _ _⟩, ⟨by simp⟩, ⟨by omega⟩⟩
    case round =>
      obtain ⟨i, l, hi, hg, rfl, rfl, FW, HL, LL⟩ := hrel
      have b1 := b1.no FW.out
      have F := F3.no FW.out
      by_cases hlt : i < es.length
      · have hltz : (i : Int) < (es.length : Int) := by omega
        have hi0 : (0 : Int) ≤ (i : Int) := by omega
        obtain ⟨b, o, rfl, hbb, hcc⟩ := H3.out (by omega)
        have k1 := Fr.cell (hcc i hlt).1 F (fun h => h)
        have k2 := Fr.cell (hcc i hlt).2 F (fun h => h)
        obtain ⟨e1, e2, e3⟩ := HE.out (es.getD i default) (by rw [List.getD_eq_getElem?_getD, List.getElem?_eq_getElem hlt]; exact List.getElem_mem hlt)
        have hnx : Kp (∀ l, l = H ++ (es.take i).flatMap printE → l ++ printE (es.getD i default) = H ++ (es.take (i + 1)).flatMap printE) := ⟨fun l h => by
          have tk : es.take (i + 1) = es.take i ++ [es.getD i default] := by rw [List.take_add_one, List.getD_eq_getElem?_getD, List.getElem?_eq_getElem hlt]; rfl
          rw [h, tk, List.flatMap_append, List.flatMap_singleton, List.append_assoc]⟩
        clear hcc
        generalize es.getD i default = y at k1 k2 e1 e2 e3 hnx
        obtain ⟨y1, y2⟩ := y
        simp only at k1 k2 e1 e2 e3 hnx
        have hll := LL.out
        have hc4 := b1.at_ 4 rfl
        have n1 : (numR 1 (y1.size : Int)).length = 1 := numR_len _ _
        have n4 : (numR 4 y2).length = 4 := numR_len _ _
        have hcat : Kp (bs l ++ bs (numR 1 (y1.size : Int)) ++ y1 ++ bs (numR 4 y2) = bs (l ++ printE (y1, y2))) := ⟨by
          rw [num1, num4, bs_append]
          show bs (l ++ [Nd.b1 (y1.size : Int)]) ++ bs y1.data.toList ++ bs (b4 y2) = _
          rw [bs_append, bs_append]
          simp [printE]⟩
        go_wp2_with fail
        have fd := (Fr.refl No wr).drew
        refine region_quiet (C := fun w' => Blk w' g1 56 (ndL k m d t (.slice (some ⟨b, o, none⟩) es.length c)) ∧ w'.cell? ⟨b, o + i * 2, none⟩ = some (.string y1) ∧ w'.cell? ⟨b, o + i * 2 + 1, none⟩ = some (.int .i64 y2) ∧ Fr No wr w') (by kernel_rfl) (by kernel_rfl) ⟨b1.no fd, Fr.cell k1 fd (fun h => h), Fr.cell k2 fd (fun h => h), fd⟩ ?_
        iterate 26 (first
          | ((with_reducible refine gate_q (N := 37) rfl ?_); refine quiet_call (a' := ?_) Try.func75 (by kernel_rfl) rfl #[.int .i64 (y1.size : Int), .int .i64 ((1 : Nat) : Int)] (by rfl) rfl (by simp only [List.map_toArray, List.map_cons, List.map_nil]; rfl) (fun w' hC' => (number_any (y1.size : Int) 1 w' (by omega) (by omega) (by decide)).mono (by rintro e w'' ⟨rfl, f⟩; exact ⟨rfl, hC'.1.no f, Fr.cell hC'.2.1 f (fun h => h), Fr.cell hC'.2.2.1 f (fun h => h), hC'.2.2.2.no f⟩)) ?_ ?_; rotate_left; (simp only [Act.put, List.setIfInBounds_toArray, List.set_cons_zero, List.set_cons_succ]; rfl))
          | ((with_reducible refine gate_q (N := 52) rfl ?_); refine quiet_call (a' := ?_) Try.func75 (by kernel_rfl) rfl #[.int .i64 y2, .int .i64 ((4 : Nat) : Int)] (by rfl) rfl (by simp only [List.map_toArray, List.map_cons, List.map_nil]; rfl) (fun w' hC' => (number_any y2 4 w' (by omega) (by omega) (by decide)).mono (by rintro e w'' ⟨rfl, f⟩; exact ⟨rfl, hC'.1.no f, Fr.cell hC'.2.1 f (fun h => h), Fr.cell hC'.2.2.1 f (fun h => h), hC'.2.2.2.no f⟩)) ?_ ?_; rotate_left; (simp only [Act.put, List.setIfInBounds_toArray, List.set_cons_zero, List.set_cons_succ]; rfl))
          | (go_big_quiet_step (fail))
          | (refine quiet_val (v := ?_) (a' := ?_) (by rfl) ?_ ?_ ?_; rotate_left; (focus (rintro w' ⟨s0, s1, s2, s3⟩; have q0 := s0.at_ 0 rfl; have q1 := s0.at_ 1 rfl; have q2 := s0.at_ 2 rfl; have q3 := s0.at_ 3 rfl; have q4 := s0.at_ 4 rfl; go_simp; first | done | with_reducible rfl | (rw [if_neg (by omega)]; done) | (rw [if_neg (by omega)]; with_reducible rfl))); rotate_left; (simp only [Act.put, List.setIfInBounds_toArray, List.set_cons_zero, List.set_cons_succ]; rfl)))
        refine wpQuiet_nil ?_
        rintro w4 ⟨_, _, _, f4⟩
        rw [hcat.out]
        go_wp2_with fail
        go_roundg (es.length - (i + 1))
        case measure => omega
        case rel =>
          refine ⟨i + 1, l ++ printE (y1, y2), by omega, by omega, rfl, by go_num, ⟨FW.out.no f4⟩, ⟨hnx.out l HL.out⟩, ⟨?_⟩⟩
          have e4 : y1.data.toList.length = y1.size := by rw [Lib.size_eq]
          simp only [printE, b4, List.length_append, List.length_cons, List.length_nil, e4]
          omega
      · have hltz : ¬ (i : Int) < (es.length : Int) := by omega
        obtain rfl : i = es.length := by omega
        have hl : l = R := by rw [HL.out, hHR.out, List.take_length]
        subst hl
        have hc4 := b1.at_ 4 rfl
        go_wp2_with fail
        go_ret2
        exact ⟨rfl, F⟩
end Go.Proofs.Ytenlokbfjajbbaa.Nd

/- The document's Same, walked. No conditions. -/
set_option linter.unusedSimpArgs false
set_option linter.unusedVariables false
namespace Go.Proofs.Ytenlokbfjajbbaa.Nd
open Go Go.RowKit Go.Proofs.YtenlokbfjajbbaaW.PrintWords Go.Proofs.Ytenlokbfjajbbaa.Ev
set_option maxHeartbeats 4000000 in
set_option maxRecDepth 100000 in
theorem rsame_any (M N : Nd) (u v : Value) (W : World) (hu : EntS W u M.ents) (hv : EntS W v N.ents) :
    Calls Try.prog 50 #[ndV M u, ndV N v] W fun e w' => e = .returned (.bool (sameB M N)) ∧ Fr No W w' := by
  obtain ⟨A, c, rfl, h1, h2, h3⟩ := hu.out
  obtain ⟨B, c', rfl, j1, j2, j3⟩ := hv.out
  obtain ⟨k, m, d, t, es⟩ := M
  obtain ⟨k', m', d', t', es'⟩ := N
  have HA := Kp.mk h3
  have HB := Kp.mk j3
  have hal : es.length ≤ 9223372036854775807 := by have : es.length ≤ c := h1; omega
  clear h3 j3 hu hv
  by_cases hk : k = k'
  · subst hk
    by_cases hm : m = m'
    · subst hm
      by_cases hd : d.toList = d'.toList
      · obtain rfl := toList_inj hd
        clear hd
        by_cases ht : t.toList = t'.toList
        · obtain rfl := toList_inj ht
          clear ht
          by_cases hl : es.length = es'.length
          · have hb : ((es.length : Int) != (es'.length : Int)) = false := by rw [hl]; simp
            have HL := Kp.mk hl
            have hx : sameB ⟨k, m, d, t, es⟩ ⟨k, m, d, t, es'⟩ = sameE es es' := by simp [sameB]
            rw [hx]
            obtain ⟨x, hx⟩ : ∃ x, sameE es es' = x := ⟨_, rfl⟩
            rw [hx]
            have HX := Kp.mk hx
            clear hx hl
            go_enter Try.func50, Try.ntmps50
            go_wp2_with (first | ((with_reducible refine gate_dst (N := 2) rfl ?_); refine ev_box rfl 56 _ rfl _ rfl [.int .i64 k, .int .i64 m, .string d, .string t, .slice A es.length c] rfl ?_; intro g2 w2 hg2 f2 b2) | ((with_reducible refine gate_dst (N := 3) rfl ?_); refine ev_box rfl 56 _ rfl _ rfl [.int .i64 _, .int .i64 _, .string _, .string _, .slice B es'.length c'] rfl ?_; intro g3 w3 hg3 f3 b3; have c0 := (b2.no f3).at_ 0 rfl; have c1 := (b2.no f3).at_ 1 rfl; have c2 := (b2.no f3).at_ 2 rfl; have c3 := (b2.no f3).at_ 3 rfl; have c4 := (b2.no f3).at_ 4 rfl; have e0 := b3.at_ 0 rfl; have e1 := b3.at_ 1 rfl; have e2 := b3.at_ 2 rfl; have e3 := b3.at_ 3 rfl; have e4 := b3.at_ 4 rfl))
            go_loopg [5] es.length (fun gg s wr => ∃ kk : Nat, kk ≤ es.length ∧ es.length - kk ≤ gg ∧ s = .int .i64 kk ∧ Kp (Fr No w3 wr) ∧ Kp (∀ j, j < kk → eqE (es.getD j default) (es'.getD j default) = true))
            case atStart => exact ⟨0, Nat.zero_le _, by omega, rfl, ⟨Fr.refl _ _⟩, ⟨fun j hj => absurd hj (Nat.not_lt_zero _)⟩⟩
            case round =>
              obtain ⟨kk, hkk, hg, rfl, FK, NE⟩ := hrel
              have F := Kp.mk ((f2.no f3).no FK.out)
              have c4 := ((b2.no f3).no FK.out).at_ 4 rfl
              have e4 := (b3.no FK.out).at_ 4 rfl
              by_cases hlt : kk < es.length
              · have hl := HL.out
                have hltz : (kk : Int) < (es.length : Int) := by omega
                have hltz2 : (kk : Int) < (es'.length : Int) := by omega
                obtain ⟨g1, o1, rfl, hb1, hc1⟩ := HA.out (by omega)
                obtain ⟨g5, o2, rfl, hb2, hc2⟩ := HB.out (by omega)
                have l1 := Fr.cell (hc1 kk hlt).1 F.out (fun h => h)
                have l2 := Fr.cell (hc1 kk hlt).2 F.out (fun h => h)
                have l3 := Fr.cell (hc2 kk (by omega)).1 F.out (fun h => h)
                have l4 := Fr.cell (hc2 kk (by omega)).2 F.out (fun h => h)
                have nxt : ∀ z, eqE (es.getD kk default) (es'.getD kk default) = z → z = true → ∀ j, j < kk + 1 → eqE (es.getD j default) (es'.getD j default) = true := fun z h1 h2 j hj => by
                  by_cases e : j = kk
                  · rw [e, h1, h2]
                  · exact NE.out j (by omega)
                have fin : ∀ z, eqE (es.getD kk default) (es'.getD kk default) = z → z = false → x = false := fun z h1 h2 => by rw [← HX.out]; exact sameE_not kk hl hlt (h1.trans h2)
                clear hc1 hc2 hl
                generalize es.getD kk default = p at l1 l2 nxt fin
                generalize es'.getD kk default = q at l3 l4 nxt fin
                obtain ⟨p1, p2⟩ := p
                obtain ⟨q1, q2⟩ := q
                simp only at l1 l2 l3 l4
                have hgd := guard_ent
                have hne := neq_ent p1 q1 p2 q2
                cases hz : eqE (p1, p2) (q1, q2) with
                | true =>
                  have NX := Kp.mk (nxt _ hz rfl)
                  rw [hz] at hne
                  clear nxt fin hz NE
                  go_wp2_with fail
                  go_quiet (fail)
                  go_wp2_with fail
                  go_roundg (es.length - (kk + 1))
                  case measure => omega
                  case rel => exact ⟨kk + 1, by omega, by omega, by go_num, ⟨FK.out.drewN _⟩, NX⟩
                | false =>
                  obtain rfl : x = false := fin _ hz rfl
                  rw [hz] at hne
                  clear nxt fin hz NE
                  go_wp2_with fail
                  go_quiet (fail)
                  go_wp2
                  go_ret
                  exact ⟨rfl, F.out.drewN _⟩
              · have hltz : ¬ (kk : Int) < (es.length : Int) := by omega
                obtain rfl : kk = es.length := by omega
                obtain rfl : true = x := by rw [← HX.out]; exact (sameE_of HL.out NE.out).symm
                go_wp2_with fail
                go_ret
                exact ⟨rfl, F.out⟩
          · have hb : ¬ (es.length : Int) = (es'.length : Int) := by omega
            have hx : sameB ⟨k, m, d, t, es⟩ ⟨k, m, d, t, es'⟩ = false := by simp [sameB, sameE, hl]
            rw [hx]
            clear hx
            (go_enter Try.func50, Try.ntmps50; go_wp2_with (first | ((with_reducible refine gate_dst (N := 2) rfl ?_); refine ev_box rfl 56 _ rfl _ rfl [.int .i64 k, .int .i64 m, .string d, .string t, .slice A es.length c] rfl ?_; intro g2 w2 hg2 f2 b2) | ((with_reducible refine gate_dst (N := 3) rfl ?_); refine ev_box rfl 56 _ rfl _ rfl [.int .i64 _, .int .i64 _, .string _, .string _, .slice B es'.length c'] rfl ?_; intro g3 w3 hg3 f3 b3; have c0 := (b2.no f3).at_ 0 rfl; have c1 := (b2.no f3).at_ 1 rfl; have c2 := (b2.no f3).at_ 2 rfl; have c3 := (b2.no f3).at_ 3 rfl; have c4 := (b2.no f3).at_ 4 rfl; have e0 := b3.at_ 0 rfl; have e1 := b3.at_ 1 rfl; have e2 := b3.at_ 2 rfl; have e3 := b3.at_ 3 rfl; have e4 := b3.at_ 4 rfl)); go_ret; exact ⟨rfl, f2.no f3⟩)
        · have hx : sameB ⟨k, m, d, t, es⟩ ⟨k, m, d, t', es'⟩ = false := by simp [sameB, ht]
          rw [hx]
          clear hx
          (go_enter Try.func50, Try.ntmps50; go_wp2_with (first | ((with_reducible refine gate_dst (N := 2) rfl ?_); refine ev_box rfl 56 _ rfl _ rfl [.int .i64 k, .int .i64 m, .string d, .string t, .slice A es.length c] rfl ?_; intro g2 w2 hg2 f2 b2) | ((with_reducible refine gate_dst (N := 3) rfl ?_); refine ev_box rfl 56 _ rfl _ rfl [.int .i64 _, .int .i64 _, .string _, .string _, .slice B es'.length c'] rfl ?_; intro g3 w3 hg3 f3 b3; have c0 := (b2.no f3).at_ 0 rfl; have c1 := (b2.no f3).at_ 1 rfl; have c2 := (b2.no f3).at_ 2 rfl; have c3 := (b2.no f3).at_ 3 rfl; have c4 := (b2.no f3).at_ 4 rfl; have e0 := b3.at_ 0 rfl; have e1 := b3.at_ 1 rfl; have e2 := b3.at_ 2 rfl; have e3 := b3.at_ 3 rfl; have e4 := b3.at_ 4 rfl)); go_ret; exact ⟨rfl, f2.no f3⟩)
      · have hx : sameB ⟨k, m, d, t, es⟩ ⟨k, m, d', t', es'⟩ = false := by simp [sameB, hd]
        rw [hx]
        clear hx
        (go_enter Try.func50, Try.ntmps50; go_wp2_with (first | ((with_reducible refine gate_dst (N := 2) rfl ?_); refine ev_box rfl 56 _ rfl _ rfl [.int .i64 k, .int .i64 m, .string d, .string t, .slice A es.length c] rfl ?_; intro g2 w2 hg2 f2 b2) | ((with_reducible refine gate_dst (N := 3) rfl ?_); refine ev_box rfl 56 _ rfl _ rfl [.int .i64 _, .int .i64 _, .string _, .string _, .slice B es'.length c'] rfl ?_; intro g3 w3 hg3 f3 b3; have c0 := (b2.no f3).at_ 0 rfl; have c1 := (b2.no f3).at_ 1 rfl; have c2 := (b2.no f3).at_ 2 rfl; have c3 := (b2.no f3).at_ 3 rfl; have c4 := (b2.no f3).at_ 4 rfl; have e0 := b3.at_ 0 rfl; have e1 := b3.at_ 1 rfl; have e2 := b3.at_ 2 rfl; have e3 := b3.at_ 3 rfl; have e4 := b3.at_ 4 rfl)); go_ret; exact ⟨rfl, f2.no f3⟩)
    · have hx : sameB ⟨k, m, d, t, es⟩ ⟨k, m', d', t', es'⟩ = false := by simp [sameB, hm]
      rw [hx]
      clear hx
      (go_enter Try.func50, Try.ntmps50; go_wp2_with (first | ((with_reducible refine gate_dst (N := 2) rfl ?_); refine ev_box rfl 56 _ rfl _ rfl [.int .i64 k, .int .i64 m, .string d, .string t, .slice A es.length c] rfl ?_; intro g2 w2 hg2 f2 b2) | ((with_reducible refine gate_dst (N := 3) rfl ?_); refine ev_box rfl 56 _ rfl _ rfl [.int .i64 _, .int .i64 _, .string _, .string _, .slice B es'.length c'] rfl ?_; intro g3 w3 hg3 f3 b3; have c0 := (b2.no f3).at_ 0 rfl; have c1 := (b2.no f3).at_ 1 rfl; have c2 := (b2.no f3).at_ 2 rfl; have c3 := (b2.no f3).at_ 3 rfl; have c4 := (b2.no f3).at_ 4 rfl; have e0 := b3.at_ 0 rfl; have e1 := b3.at_ 1 rfl; have e2 := b3.at_ 2 rfl; have e3 := b3.at_ 3 rfl; have e4 := b3.at_ 4 rfl)); go_ret; exact ⟨rfl, f2.no f3⟩)
  · have hx : sameB ⟨k, m, d, t, es⟩ ⟨k', m', d', t', es'⟩ = false := by simp [sameB, hk]
    rw [hx]
    clear hx
    (go_enter Try.func50, Try.ntmps50; go_wp2_with (first | ((with_reducible refine gate_dst (N := 2) rfl ?_); refine ev_box rfl 56 _ rfl _ rfl [.int .i64 k, .int .i64 m, .string d, .string t, .slice A es.length c] rfl ?_; intro g2 w2 hg2 f2 b2) | ((with_reducible refine gate_dst (N := 3) rfl ?_); refine ev_box rfl 56 _ rfl _ rfl [.int .i64 _, .int .i64 _, .string _, .string _, .slice B es'.length c'] rfl ?_; intro g3 w3 hg3 f3 b3; have c0 := (b2.no f3).at_ 0 rfl; have c1 := (b2.no f3).at_ 1 rfl; have c2 := (b2.no f3).at_ 2 rfl; have c3 := (b2.no f3).at_ 3 rfl; have c4 := (b2.no f3).at_ 4 rfl; have e0 := b3.at_ 0 rfl; have e1 := b3.at_ 1 rfl; have e2 := b3.at_ 2 rfl; have e3 := b3.at_ 3 rfl; have e4 := b3.at_ 4 rfl)); go_ret; exact ⟨rfl, f2.no f3⟩)
end Go.Proofs.Ytenlokbfjajbbaa.Nd

/- The document's Without, walked. Condition: the number of entries is bounded, as written out. -/
set_option linter.unusedSimpArgs false
set_option linter.unusedVariables false
namespace Go.Proofs.Ytenlokbfjajbbaa.Nd
open Go Go.RowKit Go.Proofs.YtenlokbfjajbbaaW.PrintWords Go.Proofs.YtenlokbfjajbbaaW.PrintLast Go.Proofs.Ytenlokbfjajbbaa.Ev Go.Proofs.Ytenlokbfjajbbaa.Reg Go.Proofs.Ytenlokbfjajbbaa.Sb

theorem findN_any {N : Nd} {n : ByteArray} : (findN N n).2 = N.ents.any (isNm n) := by
  unfold findN
  cases h : N.ents.find? (isNm n) with
  | none =>
    rw [List.find?_eq_none] at h
    simp only
    symm
    rw [List.any_eq_false]
    exact h
  | some e =>
    simp only
    symm
    rw [List.any_eq_true]
    exact ⟨e, List.mem_of_find?_eq_some h, List.find?_some h⟩
/-- What the loop has gathered. -/
def CutSt (es : List Ent) (n : ByteArray) (i : Nat) (dn : Bool) (l : List Ent) : Prop :=
  l.length ≤ i ∧ (dn = true → l ++ es.drop i = es.eraseP (isNm n) ∧ es.any (isNm n) = true) ∧ (dn = false → l = es.take i ∧ ∀ x ∈ es.take i, isNm n x = false)
theorem CutSt.start (es : List Ent) (n : ByteArray) : CutSt es n 0 false [] := ⟨Nat.le_refl _, fun h => (by cases h), fun _ => ⟨rfl, fun x hx => (by simp at hx)⟩⟩
theorem drop_here {es : List Ent} {i : Nat} (hi : i < es.length) : es.drop i = es.getD i default :: es.drop (i + 1) := by
  rw [List.drop_eq_getElem_cons hi, List.getD_eq_getElem?_getD, List.getElem?_eq_getElem hi]; rfl
theorem CutSt.keep {es : List Ent} {n : ByteArray} {y : Ent} {i : Nat} {dn : Bool} {l : List Ent} (h : CutSt es n i dn l) (hi : i < es.length) (hy : es.getD i default = y) (hq : dn = true ∨ isNm n y = false) : CutSt es n (i + 1) dn (l ++ [y]) := by
  refine ⟨by rw [List.length_append, List.length_singleton]; have := h.1; omega, fun hd => ?_, fun hd => ?_⟩
  · obtain ⟨h1, h2⟩ := h.2.1 hd
    rw [drop_here hi, hy] at h1
    exact ⟨by rw [← h1]; simp, h2⟩
  · obtain ⟨h1, h2⟩ := h.2.2 hd
    rw [take_next hi, hy, h1]
    refine ⟨rfl, fun x hx => ?_⟩
    rcases List.mem_append.1 hx with hx | hx
    · exact h2 x hx
    · rcases hq with hq | hq
      · rw [hd] at hq; cases hq
      · rw [List.mem_singleton.1 hx]; exact hq
theorem CutSt.hit {es : List Ent} {n : ByteArray} {y : Ent} {i : Nat} {l : List Ent} (h : CutSt es n i false l) (hi : i < es.length) (hy : es.getD i default = y) (hq : isNm n y = true) : CutSt es n (i + 1) true l := by
  obtain ⟨h1, h2⟩ := h.2.2 rfl
  have he : es = es.take i ++ y :: es.drop (i + 1) := by rw [← hy, ← drop_here hi, List.take_append_drop]
  refine ⟨by have := h.1; omega, fun _ => ⟨?_, ?_⟩, fun hd => by cases hd⟩
  · have h3 : es.eraseP (isNm n) = (es.take i ++ y :: es.drop (i + 1)).eraseP (isNm n) := by rw [← he]
    rw [h3, List.eraseP_append_right _ (fun x hx => by simpa using h2 x hx), List.eraseP_cons_of_pos hq, h1]
  · rw [List.any_eq_true]
    refine ⟨y, ?_, hq⟩
    rw [he]; simp
theorem CutSt.done {es : List Ent} {n : ByteArray} {dn : Bool} {l : List Ent} (h : CutSt es n es.length dn l) : es.any (isNm n) = dn ∧ (dn = true → l = es.eraseP (isNm n)) := by
  cases dn with
  | true =>
    obtain ⟨h1, h2⟩ := h.2.1 rfl
    rw [List.drop_length, List.append_nil] at h1
    exact ⟨h2, fun _ => h1⟩
  | false =>
    obtain ⟨h1, h2⟩ := h.2.2 rfl
    rw [List.take_length] at h2
    exact ⟨by rw [List.any_eq_false]; intro x hx; simp [h2 x hx], fun h => by cases h⟩

set_option maxHeartbeats 4000000 in
set_option maxRecDepth 100000 in
theorem rwithout_any (N : Nd) (v : Value) (n : ByteArray) (W : World) (hs : EntS W v N.ents) (hz : N.ents.length ≤ 1099511627776) :
    Calls Try.prog 46 #[ndV N v, .string n] W fun e w' => Gives W (withoutN N n).1 (withoutN N n).2 e w' := by
  obtain ⟨R, hR⟩ : ∃ R, withoutN N n = R := ⟨_, rfl⟩
  rw [hR]
  unfold withoutN at hR
  rw [findN_any] at hR
  obtain ⟨A, c, rfl, h1, h2, h3⟩ := hs.out
  obtain ⟨k, m, d, t, es⟩ := N
  have hs : EntS W (.slice A es.length c) es := hs
  have hz : es.length ≤ 1099511627776 := hz
  have HS := Kp.mk hs
  have H3 := Kp.mk h3
  clear h3 hs
  by_cases hk : k = 2
  · rw [if_neg (by simpa using hk)] at hR
    subst hk
    have HR := Kp.mk hR
    clear hR
    go_enter Try.func46, Try.ntmps46
    go_wp2_with (first | ((with_reducible refine gate_dst (N := 2) rfl ?_); go_must (refine ev_box rfl 56 _ rfl _ rfl (ndL _ m d t (.slice A es.length c)) rfl ?_); intro g3 w3 hg3 f3 b3; have hl3 := b3.lt; have c0 := b3.at_ 0 rfl) | ((with_reducible refine gate_dst (N := 4) rfl ?_); go_must (refine ev_alloc rfl 56 rfl _ (ndL 0 0 ⟨#[]⟩ ⟨#[]⟩ (.slice none 0 0)) zeroNd rfl ?_); intro g6 w6 hg6 f6 b6; have b3 := b3.no f6; have c0 := b3.at_ 0 rfl; have c4 := b3.at_ 4 rfl; have F := f3.no f6))
    have hne : g6 ≠ g3 := fun h => by rw [h] at hg6; exact absurd hl3 (Nat.not_lt_of_le hg6)
    go_loopg [6, 7, 8] es.length (fun gg s6 s7 s8 wr => ∃ (i : Nat) (dn : Bool) (l : List Ent), i ≤ es.length ∧ es.length - i ≤ gg ∧ s7 = .bool dn ∧ s8 = .int .i64 i ∧ Kp (Fr No w6 wr) ∧ Kp (wr.ownsRow w6.heap.size 75 2 s6 l.length (entsV l)) ∧ Kp (CutSt es n i dn l))
    case atStart => exact ⟨0, false, [], Nat.zero_le _, by omega, rfl, rfl, ⟨Fr.refl _ _⟩, ⟨own_nil _ _ _ _⟩, ⟨CutSt.start _ _⟩⟩
    case round =>
      obtain ⟨i, dn, l, hi, hg, rfl, rfl, FW, O, PS⟩ := hrel
      have hll : l.length ≤ 1099511627776 := by have := PS.out.1; omega
      have FC := FW.out
      have OC := O.out
      have b3c := b3.no FC
      have c4 := b3c.at_ 4 rfl
      by_cases hlt : i < es.length
      · have hltz : (i : Int) < (es.length : Int) := by omega
        obtain ⟨b, o, rfl, hb, hcc⟩ := H3.out (by omega)
        have k1 := Fr.cell (hcc i hlt).1 F (fun h => h)
        have k2 := Fr.cell (hcc i hlt).2 F (fun h => h)
        clear hcc
        obtain ⟨y, hy⟩ : ∃ y, es.getD i default = y := ⟨_, rfl⟩
        rw [hy] at k1 k2
        have HY := Kp.mk hy
        clear hy
        obtain ⟨y1, y2⟩ := y
        simp only at k1 k2
        have m1 := Fr.cell k1 FC (fun h => h)
        have m2 := Fr.cell k2 FC (fun h => h)
        cases dn with
        | true =>
          have PN := Kp.mk (PS.out.keep hlt HY.out (.inl rfl))
          clear PS O
          go_wp2_with (first | ((with_reducible refine gate_dst (N := 38) rfl ?_); go_must (refine ev_lit rfl 75 [.string y1, .int .i64 y2] 1 (by first | (go_simp; done) | (go_simp; rfl)) ?_); intro g65 w65 hg65 f65 b65; have FC := FC.no f65; have OC := own_no OC f65) | ((with_reducible refine gate_dst (N := 39) rfl ?_); go_must (refine ev_append rfl (.tmp 32) (.tmp 38) 54 75 _ 2 24 rfl Try.underlying54 infoE rfl (by decide) (by decide) w6.heap.size _ (l).length (entsV (l)) rfl OC FC.size ⟨g65, 0, none⟩ 1 1 (entV (y1, y2)) rfl rfl (news_blk b65) (by simp [entV, Value.oneCell']) (by have h := hll; omega) ?_); intro A66 c66 w66 o66 f66 hat66; have FC := FC.trans f66 (fun q hq => .inr (own_new_base OC q hq)); have OC := own_snoc o66; have b3c := b3.no FC; have c4 := b3c.at_ 4 rfl))
          go_roundg (es.length - (i + 1))
          case measure => omega
          case rel => exact ⟨i + 1, true, l ++ [(y1, y2)], by omega, by omega, rfl, by go_num, ⟨FC⟩, ⟨OC⟩, PN⟩
        | false =>
          cases hq : isNm n (y1, y2) with
          | true =>
            have PN := Kp.mk (PS.out.hit hlt HY.out hq)
            have he : (y1.toList == n.toList) = true := hq
            have he2 : y1.toList = n.toList := by simpa using he
            clear PS O hq
            go_wp2_with fail
            go_roundg (es.length - (i + 1))
            case measure => omega
            case rel => exact ⟨i + 1, true, l, by omega, by omega, rfl, by go_num, ⟨FC⟩, ⟨OC⟩, PN⟩
          | false =>
            have PN := Kp.mk (PS.out.keep hlt HY.out (.inr hq))
            have he : (y1.toList == n.toList) = false := hq
            have he2 : ¬ y1.toList = n.toList := by simpa using he
            clear PS O hq
            go_wp2_with (first | ((with_reducible refine gate_dst (N := 38) rfl ?_); go_must (refine ev_lit rfl 75 [.string y1, .int .i64 y2] 1 (by first | (go_simp; done) | (go_simp; rfl)) ?_); intro g65 w65 hg65 f65 b65; have FC := FC.no f65; have OC := own_no OC f65) | ((with_reducible refine gate_dst (N := 39) rfl ?_); go_must (refine ev_append rfl (.tmp 32) (.tmp 38) 54 75 _ 2 24 rfl Try.underlying54 infoE rfl (by decide) (by decide) w6.heap.size _ (l).length (entsV (l)) rfl OC FC.size ⟨g65, 0, none⟩ 1 1 (entV (y1, y2)) rfl rfl (news_blk b65) (by simp [entV, Value.oneCell']) (by have h := hll; omega) ?_); intro A66 c66 w66 o66 f66 hat66; have FC := FC.trans f66 (fun q hq => .inr (own_new_base OC q hq)); have OC := own_snoc o66; have b3c := b3.no FC; have c4 := b3c.at_ 4 rfl))
            go_roundg (es.length - (i + 1))
            case measure => omega
            case rel => exact ⟨i + 1, false, l ++ [(y1, y2)], by omega, by omega, rfl, by go_num, ⟨FC⟩, ⟨OC⟩, PN⟩
      · have hltz : ¬ (i : Int) < (es.length : Int) := by omega
        obtain rfl : i = es.length := by omega
        obtain ⟨ha, hd⟩ := PS.out.done
        have hR := HR.out
        rw [ha] at hR
        cases dn with
        | true =>
          rw [if_neg (by simp)] at hR
          subst hR
          have HD := Kp.mk (hd rfl)
          clear hd ha
          have E := own_ents OC rfl
          clear PS O HR
          go_wp2_with (first | ((with_reducible refine gate_store (t := 54) (p := 44) rfl ?_); go_must (refine ev_store rfl 54 _ _ rfl g3 4 u6 rfl rfl E.one 56 _ b3c (by simp) sizeEs ?_); intro wS fS bS) | ((with_reducible refine gate_dst (N := 45) rfl ?_); go_must (refine ev_load_row rfl 56 _ rfl g3 rfl 56 _ bS _ Try.underlying56 rfl sizeNd ?_)) | ((with_reducible refine gate_store (t := 56) (p := 4) rfl ?_); go_must (refine ev_store_row rfl 56 _ _ rfl g6 (ndL 2 m d t u6).toArray rfl rfl 56 _ ((b6.no FC).one fS hne) sizeNd rfl (ndL_one _ _ _ _ E.one) ?_); intro wT fT bT))
          refine bodyPost_ret (results_row_tmp rfl _ _ g6 _ _ _ rfl bT Try.underlying56 rfl sizeNd) rfl ⟨u6, rfl, ?_, ?_⟩
          · show EntS _ _ (es.eraseP (isNm n))
            rw [← HD.out]
            exact EntS.oneR (EntS.oneR E (fun z h => by cases h) b3c fS) (fun z h => by cases h) ((b6.no FC).one fS hne) fT
          · exact ((F.no FC).one fS (.inr hg3)).one fT (.inr (Nat.le_trans f3.size hg6))
        | false =>
          rw [if_pos rfl] at hR
          subst hR
          clear PS O HR hd ha
          have b6 := b6.no FC
          go_wp2_with (first | ((with_reducible refine gate_store (t := 56) (p := 4) rfl ?_); go_must (refine ev_store_row rfl 56 _ _ rfl g6 (ndL 0 0 ⟨#[]⟩ ⟨#[]⟩ (.slice none 0 0)).toArray rfl rfl 56 _ b6 sizeNd rfl (ndL_one _ _ _ _ rfl) ?_); intro wT fT bT))
          refine bodyPost_ret (results_row_tmp rfl _ _ g6 _ _ _ rfl bT Try.underlying56 rfl sizeNd) rfl ⟨.slice none 0 0, rfl, EntS.nil _, ?_⟩
          exact (F.no FC).one fT (.inr (Nat.le_trans f3.size hg6))
  · rw [if_pos (by simpa using hk)] at hR
    subst hR
    go_enter Try.func46, Try.ntmps46
    go_wp2_with (first | ((with_reducible refine gate_dst (N := 2) rfl ?_); go_must (refine ev_box rfl 56 _ rfl _ rfl (ndL _ m d t (.slice A es.length c)) rfl ?_); intro g3 w3 hg3 f3 b3; have hl3 := b3.lt; have c0 := b3.at_ 0 rfl) | ((with_reducible refine gate_dst (N := 4) rfl ?_); go_must (refine ev_alloc rfl 56 rfl _ (ndL 0 0 ⟨#[]⟩ ⟨#[]⟩ (.slice none 0 0)) zeroNd rfl ?_); intro g6 w6 hg6 f6 b6; have b3 := b3.no f6; have c0 := b3.at_ 0 rfl; have c4 := b3.at_ 4 rfl; have F := f3.no f6) | ((with_reducible refine gate_store (t := 56) (p := 4) rfl ?_); go_must (refine ev_store_row rfl 56 _ _ rfl g6 (ndL 0 0 ⟨#[]⟩ ⟨#[]⟩ (.slice none 0 0)).toArray rfl rfl 56 _ b6 sizeNd rfl (ndL_one _ _ _ _ rfl) ?_); intro wT fT bT))
    refine bodyPost_ret (results_row_tmp rfl _ _ g6 _ _ _ rfl bT Try.underlying56 rfl sizeNd) rfl ⟨.slice none 0 0, rfl, EntS.nil _, ?_⟩
    exact F.one fT (.inr (Nat.le_trans f3.size hg6))
end Go.Proofs.Ytenlokbfjajbbaa.Nd
