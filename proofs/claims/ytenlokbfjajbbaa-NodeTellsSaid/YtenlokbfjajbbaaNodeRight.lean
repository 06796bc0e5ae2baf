/- node.rising and node.Right. Conditions: the names' sizes are bounded, as written out. -/
import Derived.Test.YtenlokbfjajbbaaNodeName
import Derived.Test.YtenlokbfjajbbaaEv2
import Derived.Laws.Cover1
import Derived.Deep.QuietTactic
import Derived.BigQuiet
import Derived.Deep.LoopGhost
set_option linter.unusedSimpArgs false
set_option linter.unusedVariables false
namespace Go.Proofs.Ytenlokbfjajbbaa.Nd
open Go Go.RowKit Go.Proofs.YtenlokbfjajbbaaW.PrintWords Go.Proofs.Ytenlokbfjajbbaa.Ev

/-- Names are short enough to be looked through. -/
def Small (es : List Ent) : Prop := ∀ e ∈ es, e.1.size < 4294967281

theorem rising_not {es : List Ent} {k : Nat} (hk : k < es.length) (h : okAt es k = false) : risingB es = false := by
  have : (List.range es.length).all (okAt es) = false := List.all_eq_false.2 ⟨k, List.mem_range.2 hk, by rw [h]; exact Bool.false_ne_true⟩
  rw [risingB, this]
  rfl
theorem okAt_first (es : List Ent) : okAt es 0 = (nameB (es.getD 0 default).1 && decide (1 ≤ (es.getD 0 default).2) && decide ((es.getD 0 default).2 ≤ 2147483647)) := by simp [okAt]
theorem okAt_next (es : List Ent) (k : Nat) : okAt es (k + 1) = (nameB (es.getD (k + 1) default).1 && decide (1 ≤ (es.getD (k + 1) default).2) && decide ((es.getD (k + 1) default).2 ≤ 2147483647) && Op.bytesLess (es.getD k default).1.toList (es.getD (k + 1) default).1.toList) := by simp [okAt]

set_option maxHeartbeats 8000000 in
set_option maxRecDepth 100000 in
theorem rising_any (v : Value) (es : List Ent) (w : World) (hs : EntS w v es) (hz : Small es) :
    Calls Try.prog 85 #[v] w fun e w' => e = .returned (.bool (risingB es)) ∧ Fr No w w' := by
  obtain ⟨A, c, rfl, h1, h2, h3⟩ := hs.out
  have H3 := Kp.mk h3
  have HZ := Kp.mk hz
  have hsz : es.length ≤ 9223372036854775807 := by omega
  obtain ⟨x, hx⟩ : ∃ x, risingB es = x := ⟨_, rfl⟩
  rw [hx]
  have HX := Kp.mk hx
  clear h3 hs hz hx
  go_enter Try.func85, Try.ntmps85
  go_wp2
  go_loopg [7] es.length (fun gg s7 wr => ∃ kk : Nat, kk ≤ es.length ∧ es.length - kk ≤ gg ∧ s7 = .int .i64 kk ∧ Kp (Fr No w wr) ∧ Kp (∀ j, j < kk → okAt es j = true))
  case atStart => exact ⟨0, Nat.zero_le _, by omega, rfl, ⟨Fr.refl _ _⟩, ⟨fun j hj => absurd hj (Nat.not_lt_zero _)⟩⟩
  case round =>
    obtain ⟨kk, hkk, hg, rfl, F, N⟩ := hrel
    by_cases hlt : kk < es.length
    · have hltz : (kk : Int) < (es.length : Int) := by omega
      obtain ⟨b, o, rfl, hb, hcc⟩ := H3.out (by omega)
      have l1 := Fr.cell (hcc kk hlt).1 F.out (fun h => h)
      have l2 := Fr.cell (hcc kk hlt).2 F.out (fun h => h)
      have hzk : (es.getD kk default).1.size < 4294967281 := by
        have hmem : es.getD kk default ∈ es := by rw [List.getD_eq_getElem?_getD, List.getElem?_eq_getElem hlt]; exact List.getElem_mem hlt
        exact HZ.out _ hmem
      have fin : ∀ z, okAt es kk = z → z = false → x = false := fun z hz1 hz2 => by rw [← HX.out]; exact rising_not hlt (hz1.trans hz2)
      have nxt : okAt es kk = true → ∀ j, j < kk + 1 → okAt es j = true := fun hk j hj => by
        by_cases e : j = kk
        · rw [e]; exact hk
        · exact N.out j (by omega)
      have hok : okAt es kk = (nameB (es.getD kk default).1 && decide (1 ≤ (es.getD kk default).2) && decide ((es.getD kk default).2 ≤ 2147483647) && (kk == 0 || Op.bytesLess (es.getD (kk - 1) default).1.toList (es.getD kk default).1.toList)) := rfl
      have lp : 0 < kk → wr.cell? ⟨b, o + (kk - 1) * 2, none⟩ = some (.string (es.getD (kk - 1) default).1) := fun h0 => Fr.cell (hcc (kk - 1) (by omega)).1 F.out (fun h => h)
      clear hcc
      generalize es.getD kk default = y at l1 l2 hzk hok
      generalize (es.getD (kk - 1) default).1 = pr at hok lp
      obtain ⟨y1, y2⟩ := y
      simp only at l1 l2 hzk hok
      have HFIN := Kp.mk fin
      have HNXT := Kp.mk nxt
      have HOK := Kp.mk hok
      have LP := Kp.mk lp
      clear fin nxt hok N H3 lp
      have hC : ∀ s2 : Prop, s2 → ((wr.alloc (.cells #[Value.string y1, Value.int .i64 y2] 75)).drew.cell? ⟨wr.heap.size, 0, none⟩ = some (.string y1) ∧ (wr.alloc (.cells #[Value.string y1, Value.int .i64 y2] 75)).drew.cell? ⟨wr.heap.size, 1, none⟩ = some (.int .i64 y2) ∧ s2 ∧ Fr No wr (wr.alloc (.cells #[Value.string y1, Value.int .i64 y2] 75)).drew) := fun s2 h2 =>
        ⟨(Blk.new wr 75 [.string y1, .int .i64 y2]).at_ 0 rfl, (Blk.new wr 75 [.string y1, .int .i64 y2]).at_ 1 rfl, h2, (Fr.alloc _ _).drew⟩
      cases hnm : nameB y1 with
      | false =>
        obtain rfl : x = false := HFIN.out _ HOK.out (by rw [hnm]; rfl)
        go_wp2_with fail
        refine region_quiet (C := fun w' => w'.cell? ⟨wr.heap.size, 0, none⟩ = some (.string y1) ∧ w'.cell? ⟨wr.heap.size, 1, none⟩ = some (.int .i64 y2) ∧ True ∧ Fr No wr w') (by kernel_rfl) (by kernel_rfl) (hC _ trivial) ?_
        iterate 29 (first
          | ((with_reducible refine gate_q (N := 14) rfl ?_); refine quiet_call (a' := ?_) Try.func78 (by kernel_rfl) rfl #[.string y1] (by rfl) rfl (by simp only [List.map_toArray, List.map_cons, List.map_nil]; rfl) (fun w' hC' => (name_any y1 w' hzk).mono (by rintro e w'' ⟨rfl, f⟩; rw [hnm]; exact ⟨rfl, Fr.cell hC'.1 f (fun h => h), Fr.cell hC'.2.1 f (fun h => h), trivial, hC'.2.2.2.no f⟩)) ?_ ?_; rotate_left; (simp only [Act.put, List.setIfInBounds_toArray, List.set_cons_zero, List.set_cons_succ]; rfl))
          | (go_big_quiet_step (fail))
          | (refine quiet_val (v := ?_) (a' := ?_) (by rfl) ?_ ?_ ?_; rotate_left; (rintro w' ⟨s0, s1, s2, s3⟩; go_simp; with_reducible rfl); rotate_left; (simp only [Act.put, List.setIfInBounds_toArray, List.set_cons_zero, List.set_cons_succ]; rfl)))
        refine wpQuiet_nil ?_
        rintro w' ⟨_, _, _, fQ⟩
        go_wp2
        go_ret
        exact ⟨rfl, F.out.no fQ⟩
      | true =>
        by_cases hy1 : y2 < 1
        · have hd1 : decide (y2 < 1) = true := decide_eq_true hy1
          obtain rfl : x = false := HFIN.out _ HOK.out (by rw [decide_eq_false (show ¬ 1 ≤ y2 by omega)]; simp)
          clear hy1
          go_wp2_with fail
          refine region_quiet (C := fun w' => w'.cell? ⟨wr.heap.size, 0, none⟩ = some (.string y1) ∧ w'.cell? ⟨wr.heap.size, 1, none⟩ = some (.int .i64 y2) ∧ True ∧ Fr No wr w') (by kernel_rfl) (by kernel_rfl) (hC _ trivial) ?_
          iterate 29 (first
            | ((with_reducible refine gate_q (N := 14) rfl ?_); refine quiet_call (a' := ?_) Try.func78 (by kernel_rfl) rfl #[.string y1] (by rfl) rfl (by simp only [List.map_toArray, List.map_cons, List.map_nil]; rfl) (fun w' hC' => (name_any y1 w' hzk).mono (by rintro e w'' ⟨rfl, f⟩; rw [hnm]; exact ⟨rfl, Fr.cell hC'.1 f (fun h => h), Fr.cell hC'.2.1 f (fun h => h), trivial, hC'.2.2.2.no f⟩)) ?_ ?_; rotate_left; (simp only [Act.put, List.setIfInBounds_toArray, List.set_cons_zero, List.set_cons_succ]; rfl))
            | (go_big_quiet_step (fail))
            | (refine quiet_val (v := ?_) (a' := ?_) (by rfl) ?_ ?_ ?_; rotate_left; (rintro w' ⟨s0, s1, s2, s3⟩; go_simp; with_reducible rfl); rotate_left; (simp only [Act.put, List.setIfInBounds_toArray, List.set_cons_zero, List.set_cons_succ]; rfl)))
          refine wpQuiet_nil ?_
          rintro w' ⟨_, _, _, fQ⟩
          go_wp2
          go_ret
          exact ⟨rfl, F.out.no fQ⟩
        · have hd1 : decide (y2 < 1) = false := decide_eq_false hy1
          by_cases hy2 : 2147483647 < y2
          · have hd2 : decide (2147483647 < y2) = true := decide_eq_true hy2
            obtain rfl : x = false := HFIN.out _ HOK.out (by rw [decide_eq_false (show ¬ y2 ≤ 2147483647 by omega)]; simp)
            clear hy1 hy2
            go_wp2_with fail
            refine region_quiet (C := fun w' => w'.cell? ⟨wr.heap.size, 0, none⟩ = some (.string y1) ∧ w'.cell? ⟨wr.heap.size, 1, none⟩ = some (.int .i64 y2) ∧ True ∧ Fr No wr w') (by kernel_rfl) (by kernel_rfl) (hC _ trivial) ?_
            iterate 29 (first
              | ((with_reducible refine gate_q (N := 14) rfl ?_); refine quiet_call (a' := ?_) Try.func78 (by kernel_rfl) rfl #[.string y1] (by rfl) rfl (by simp only [List.map_toArray, List.map_cons, List.map_nil]; rfl) (fun w' hC' => (name_any y1 w' hzk).mono (by rintro e w'' ⟨rfl, f⟩; rw [hnm]; exact ⟨rfl, Fr.cell hC'.1 f (fun h => h), Fr.cell hC'.2.1 f (fun h => h), trivial, hC'.2.2.2.no f⟩)) ?_ ?_; rotate_left; (simp only [Act.put, List.setIfInBounds_toArray, List.set_cons_zero, List.set_cons_succ]; rfl))
              | (go_big_quiet_step (fail))
              | (refine quiet_val (v := ?_) (a' := ?_) (by rfl) ?_ ?_ ?_; rotate_left; (rintro w' ⟨s0, s1, s2, s3⟩; go_simp; with_reducible rfl); rotate_left; (simp only [Act.put, List.setIfInBounds_toArray, List.set_cons_zero, List.set_cons_succ]; rfl)))
            refine wpQuiet_nil ?_
            rintro w' ⟨_, _, _, fQ⟩
            go_wp2
            go_ret
            exact ⟨rfl, F.out.no fQ⟩
          · have hd2 : decide (2147483647 < y2) = false := decide_eq_false hy2
            have hba : (nameB y1 && decide (1 ≤ y2) && decide (y2 ≤ 2147483647)) = true := by rw [hnm, decide_eq_true (show 1 ≤ y2 by omega), decide_eq_true (show y2 ≤ 2147483647 by omega)]; rfl
            by_cases hk0 : kk = 0
            · have hd3 : decide ((0 : Int) < (kk : Int)) = false := decide_eq_false (by omega)
              have hd4 : decide (0 < kk) = false := decide_eq_false (by omega)
              have hokt : okAt es kk = true := by rw [HOK.out, hba, beq_iff_eq.2 hk0]; rfl
              clear hy1 hy2 hk0 hba
              go_wp2_with fail
              refine region_quiet (C := fun w' => w'.cell? ⟨wr.heap.size, 0, none⟩ = some (.string y1) ∧ w'.cell? ⟨wr.heap.size, 1, none⟩ = some (.int .i64 y2) ∧ True ∧ Fr No wr w') (by kernel_rfl) (by kernel_rfl) (hC _ trivial) ?_
              iterate 29 (first
                | ((with_reducible refine gate_q (N := 14) rfl ?_); refine quiet_call (a' := ?_) Try.func78 (by kernel_rfl) rfl #[.string y1] (by rfl) rfl (by simp only [List.map_toArray, List.map_cons, List.map_nil]; rfl) (fun w' hC' => (name_any y1 w' hzk).mono (by rintro e w'' ⟨rfl, f⟩; rw [hnm]; exact ⟨rfl, Fr.cell hC'.1 f (fun h => h), Fr.cell hC'.2.1 f (fun h => h), trivial, hC'.2.2.2.no f⟩)) ?_ ?_; rotate_left; (simp only [Act.put, List.setIfInBounds_toArray, List.set_cons_zero, List.set_cons_succ]; rfl))
                | (go_big_quiet_step (fail))
                | (refine quiet_val (v := ?_) (a' := ?_) (by rfl) ?_ ?_ ?_; rotate_left; (rintro w' ⟨s0, s1, s2, s3⟩; go_simp; with_reducible rfl); rotate_left; (simp only [Act.put, List.setIfInBounds_toArray, List.set_cons_zero, List.set_cons_succ]; rfl)))
              refine wpQuiet_nil ?_
              rintro w' ⟨_, _, _, fQ⟩
              go_wp2_with fail
              go_roundg (es.length - (kk + 1))
              case measure => omega
              case rel => exact ⟨kk + 1, by omega, by omega, by go_num, ⟨F.out.no fQ⟩, ⟨HNXT.out hokt⟩⟩
            · have hd3 : decide ((0 : Int) < (kk : Int)) = true := decide_eq_true (by omega)
              have hkb : (kk == 0) = false := beq_eq_false_iff_ne.2 hk0
              have hk1 : (0 : Int) ≤ (kk : Int) - 1 := by omega
              have hk2 : (kk : Int) - 1 < (es.length : Int) := by omega
              have hk3 : ((kk : Int) - 1).toNat = kk - 1 := by omega
              have hk4 : (kk : Int) - 1 ≤ 9223372036854775807 := by omega
              have hkp : 0 < kk := by omega
              have hk5 : (1 : Int) ≤ (kk : Int) := by omega
              have hkw : IntKind.i64.wrap ((kk : Int) - 1) = (kk : Int) - 1 := by rw [IntKind.wrap_i64]; omega
              have s2A := Fr.cell (LP.out hkp) ((Fr.alloc wr (.cells #[Value.string y1, Value.int .i64 y2] 75)).drew) (fun h => h)
              cases hls : Op.bytesLess pr.toList y1.toList with
              | false =>
                obtain rfl : x = false := HFIN.out _ HOK.out (by rw [hba, hkb, hls]; rfl)
                clear hy1 hy2 hk0 hba
                go_wp2_with fail
                refine region_quiet (C := fun w' => w'.cell? ⟨wr.heap.size, 0, none⟩ = some (.string y1) ∧ w'.cell? ⟨wr.heap.size, 1, none⟩ = some (.int .i64 y2) ∧ w'.cell? ⟨b, o + (kk - 1) * 2, none⟩ = some (.string pr) ∧ Fr No wr w') (by kernel_rfl) (by kernel_rfl) (hC _ s2A) ?_
                iterate 29 (first
                  | ((with_reducible refine gate_q (N := 14) rfl ?_); refine quiet_call (a' := ?_) Try.func78 (by kernel_rfl) rfl #[.string y1] (by rfl) rfl (by simp only [List.map_toArray, List.map_cons, List.map_nil]; rfl) (fun w' hC' => (name_any y1 w' hzk).mono (by rintro e w'' ⟨rfl, f⟩; rw [hnm]; exact ⟨rfl, Fr.cell hC'.1 f (fun h => h), Fr.cell hC'.2.1 f (fun h => h), Fr.cell hC'.2.2.1 f (fun h => h), hC'.2.2.2.no f⟩)) ?_ ?_; rotate_left; (simp only [Act.put, List.setIfInBounds_toArray, List.set_cons_zero, List.set_cons_succ]; rfl))
                  | (go_big_quiet_step (fail))
                  | (refine quiet_val (v := ?_) (a' := ?_) (by rfl) ?_ ?_ ?_; rotate_left; (rintro w' ⟨s0, s1, s2, s3⟩; go_simp; with_reducible rfl); rotate_left; (simp only [Act.put, List.setIfInBounds_toArray, List.set_cons_zero, List.set_cons_succ]; rfl)))
                refine wpQuiet_nil ?_
                rintro w' ⟨_, _, _, fQ⟩
                go_wp2
                go_ret
                exact ⟨rfl, F.out.no fQ⟩
              | true =>
                have hokt : okAt es kk = true := by rw [HOK.out, hba, hkb, hls]; rfl
                clear hy1 hy2 hk0 hba
                go_wp2_with fail
                refine region_quiet (C := fun w' => w'.cell? ⟨wr.heap.size, 0, none⟩ = some (.string y1) ∧ w'.cell? ⟨wr.heap.size, 1, none⟩ = some (.int .i64 y2) ∧ w'.cell? ⟨b, o + (kk - 1) * 2, none⟩ = some (.string pr) ∧ Fr No wr w') (by kernel_rfl) (by kernel_rfl) (hC _ s2A) ?_
                iterate 29 (first
                  | ((with_reducible refine gate_q (N := 14) rfl ?_); refine quiet_call (a' := ?_) Try.func78 (by kernel_rfl) rfl #[.string y1] (by rfl) rfl (by simp only [List.map_toArray, List.map_cons, List.map_nil]; rfl) (fun w' hC' => (name_any y1 w' hzk).mono (by rintro e w'' ⟨rfl, f⟩; rw [hnm]; exact ⟨rfl, Fr.cell hC'.1 f (fun h => h), Fr.cell hC'.2.1 f (fun h => h), Fr.cell hC'.2.2.1 f (fun h => h), hC'.2.2.2.no f⟩)) ?_ ?_; rotate_left; (simp only [Act.put, List.setIfInBounds_toArray, List.set_cons_zero, List.set_cons_succ]; rfl))
                  | (go_big_quiet_step (fail))
                  | (refine quiet_val (v := ?_) (a' := ?_) (by rfl) ?_ ?_ ?_; rotate_left; (rintro w' ⟨s0, s1, s2, s3⟩; go_simp; with_reducible rfl); rotate_left; (simp only [Act.put, List.setIfInBounds_toArray, List.set_cons_zero, List.set_cons_succ]; rfl)))
                refine wpQuiet_nil ?_
                rintro w' ⟨_, _, _, fQ⟩
                go_wp2_with fail
                go_roundg (es.length - (kk + 1))
                case measure => omega
                case rel => exact ⟨kk + 1, by omega, by omega, by go_num, ⟨F.out.no fQ⟩, ⟨HNXT.out hokt⟩⟩
    · have hltz : ¬ (kk : Int) < (es.length : Int) := by omega
      obtain rfl : kk = es.length := by omega
      have hx' : decide (es.length ≤ 64) = x := by
        rw [← HX.out, risingB, List.all_eq_true.2 (fun j hj => N.out j (List.mem_range.1 hj)), Bool.true_and]
      have HX' := Kp.mk hx'
      clear hx' N
      go_wp2
      go_ret
      refine ⟨?_, F.out⟩
      rw [← HX'.out]
      exact congrArg (fun b => Ending.returned (Value.bool b)) (by rw [Bool.eq_iff_iff, decide_eq_true_eq, decide_eq_true_eq]; omega)
end Go.Proofs.Ytenlokbfjajbbaa.Nd
