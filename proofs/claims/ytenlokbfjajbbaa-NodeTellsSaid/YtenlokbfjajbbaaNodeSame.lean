/- slices.Equal at entries, and node.Same. No conditions beside those written out. -/
import Derived.Test.YtenlokbfjajbbaaNodeName
import Derived.Test.YtenlokbfjajbbaaEv2
import Derived.Laws.StructEq
import Derived.Deep.LoopGhost
import Derived.Deep.QuietTactic
import Derived.BigQuiet
set_option linter.unusedSimpArgs false
set_option linter.unusedVariables false
namespace Go.Proofs.Ytenlokbfjajbbaa.Nd
open Go Go.RowKit Go.Proofs.YtenlokbfjajbbaaW.PrintWords Go.Proofs.Ytenlokbfjajbbaa.Ev

def eqE (a b : Ent) : Bool := a.1.toList == b.1.toList && decide (a.2 = b.2)
theorem sameE_of : ∀ {a b : List Ent}, a.length = b.length → (∀ j, j < a.length → eqE (a.getD j default) (b.getD j default) = true) → sameE a b = true
  | [], [], _, _ => rfl
  | [], _ :: _, h, _ => by simp at h
  | _ :: _, [], h, _ => by simp at h
  | x :: a, y :: b, h, hj => by
    have ih := sameE_of (a := a) (b := b) (by simpa using h) (fun j hl => by simpa using hj (j + 1) (by simpa using hl))
    have h0 := hj 0 (by simp)
    simp only [sameE, Bool.and_eq_true, decide_eq_true_eq] at ih ⊢
    refine ⟨h, ?_⟩
    simp only [List.zip_cons_cons, List.all_cons, Bool.and_eq_true]
    simp only [List.getD_cons_zero, eqE, Bool.and_eq_true] at h0
    exact ⟨h0, ih.2⟩
theorem sameE_not : ∀ {a b : List Ent} (j : Nat), a.length = b.length → j < a.length → eqE (a.getD j default) (b.getD j default) = false → sameE a b = false
  | [], _, j, _, h, _ => absurd h (Nat.not_lt_zero _)
  | _ :: _, [], _, h, _, _ => by simp at h
  | x :: a, y :: b, 0, h, _, hj => by
    simp only [List.getD_cons_zero, eqE] at hj
    simp only [sameE, List.zip_cons_cons, List.all_cons, hj, Bool.false_and, Bool.and_false]
  | x :: a, y :: b, j + 1, h, hl, hj => by
    have ih := sameE_not (a := a) (b := b) j (by simpa using h) (by simpa using hl) (by simpa using hj)
    simp only [sameE, List.zip_cons_cons, List.all_cons] at ih ⊢
    have hl' : a.length = b.length := by simpa using h
    rw [decide_eq_true hl', Bool.true_and] at ih
    rw [ih]
    simp

theorem neq_ent (x1 y1 : ByteArray) (x2 y2 : Int) (w : World) : (binOp .neq 75 (.agg #[.string x1, .int .i64 x2]) (.agg #[.string y1, .int .i64 y2])).run Try.prog w = .ok (.bool (!(eqE (x1, x2) (y1, y2)))) w := by
  have hS : Try.prog.underlying 75 = some (.struct (Try.prog.fieldsOf 75)) := by kernel_rfl
  have hp : Try.prog.stoodInHeld 75 = false := by kernel_rfl
  rw [run_neq_struct, show (10000 : Nat) = 9999 + 1 from rfl, run_equalIn_agg w 9999 75 _ _ hS hp]
  simp only [Program.fieldsOf, Try.underlying75]
  go_simp
  by_cases h1 : x1.toList = y1.toList <;> by_cases h2 : x2 = y2 <;> simp [h1, h2, eqE]
theorem guard_ent : Try.prog.eqGuardType Try.prog.depth 75 = false := by kernel_rfl

set_option maxHeartbeats 4000000 in
set_option maxRecDepth 100000 in
theorem equal_any (u v : Value) (a b : List Ent) (w : World) (hu : EntS w u a) (hv : EntS w v b) :
    Calls Try.prog 86 #[u, v] w fun e w' => e = .returned (.bool (sameE a b)) ∧ Fr No w w' := by
  obtain ⟨A, c, rfl, h1, h2, h3⟩ := hu.out
  obtain ⟨B, d, rfl, k1, k2, k3⟩ := hv.out
  obtain ⟨x, hx⟩ : ∃ x, sameE a b = x := ⟨_, rfl⟩
  rw [hx]
  have HX := Kp.mk hx
  have HA := Kp.mk h3
  have HB := Kp.mk k3
  have hal : a.length ≤ 9223372036854775807 := by omega
  clear hx h3 k3 hu hv
  by_cases hl : a.length = b.length
  · have hb : ((a.length : Int) != (b.length : Int)) = false := by rw [hl]; simp
    have HL := Kp.mk hl
    go_enter Try.func86, Try.ntmps86
    go_wp2
    go_loopg [13] a.length (fun gg s wr => ∃ kk : Nat, kk ≤ a.length ∧ a.length - kk ≤ gg ∧ s = .int .i64 kk ∧ Kp (Fr No w wr) ∧ Kp (∀ j, j < kk → eqE (a.getD j default) (b.getD j default) = true))
    case atStart => exact ⟨0, Nat.zero_le _, by omega, rfl, ⟨Fr.refl _ _⟩, ⟨fun j hj => absurd hj (Nat.not_lt_zero _)⟩⟩
    case round =>
      obtain ⟨kk, hkk, hg, rfl, F, N⟩ := hrel
      by_cases hlt : kk < a.length
      · have hltz : (kk : Int) < (a.length : Int) := by omega
        have hltz2 : (kk : Int) < (b.length : Int) := by omega
        obtain ⟨g1, o1, rfl, hb1, hc1⟩ := HA.out (by omega)
        obtain ⟨g2, o2, rfl, hb2, hc2⟩ := HB.out (by omega)
        have l1 := Fr.cell (hc1 kk hlt).1 F.out (fun h => h)
        have l2 := Fr.cell (hc1 kk hlt).2 F.out (fun h => h)
        have l3 := Fr.cell (hc2 kk (by omega)).1 F.out (fun h => h)
        have l4 := Fr.cell (hc2 kk (by omega)).2 F.out (fun h => h)
        have nxt : ∀ z, eqE (a.getD kk default) (b.getD kk default) = z → z = true → ∀ j, j < kk + 1 → eqE (a.getD j default) (b.getD j default) = true := fun z h1 h2 j hj => by
          by_cases e : j = kk
          · rw [e, h1, h2]
          · exact N.out j (by omega)
        have fin : ∀ z, eqE (a.getD kk default) (b.getD kk default) = z → z = false → x = false := fun z h1 h2 => by rw [← HX.out]; exact sameE_not kk hl hlt (h1.trans h2)
        clear hc1 hc2 hl
        generalize a.getD kk default = p at l1 l2 nxt fin
        generalize b.getD kk default = q at l3 l4 nxt fin
        obtain ⟨p1, p2⟩ := p
        obtain ⟨q1, q2⟩ := q
        simp only at l1 l2 l3 l4
        have hgd := guard_ent
        have hne := neq_ent p1 q1 p2 q2
        cases hz : eqE (p1, p2) (q1, q2) with
        | true =>
          have NX := Kp.mk (nxt _ hz rfl)
          rw [hz] at hne
          clear nxt fin hz N
          go_wp2_with fail
          go_quiet (fail)
          go_wp2_with fail
          go_roundg (a.length - (kk + 1))
          case measure => omega
          case rel => exact ⟨kk + 1, by omega, by omega, by go_num, ⟨F.out.drewN _⟩, NX⟩
        | false =>
          obtain rfl : x = false := fin _ hz rfl
          rw [hz] at hne
          clear nxt fin hz N
          go_wp2_with fail
          go_quiet (fail)
          go_wp2
          go_ret
          exact ⟨rfl, F.out.drewN _⟩
      · have hltz : ¬ (kk : Int) < (a.length : Int) := by omega
        obtain rfl : kk = a.length := by omega
        obtain rfl : x = true := by rw [← HX.out]; exact sameE_of hl N.out
        have hltz2 : ¬ (a.length : Int) < (b.length : Int) := by omega
        clear N hl
        go_wp2
        go_ret
        exact ⟨rfl, F.out⟩
  · have hb : ((a.length : Int) != (b.length : Int)) = true := by rw [bne_iff_ne]; omega
    obtain rfl : x = false := by rw [← HX.out, sameE, decide_eq_false hl, Bool.false_and]
    clear hl
    go_enter Try.func86, Try.ntmps86
    go_wp2
    go_ret
    exact ⟨rfl, Fr.refl _ _⟩

set_option maxHeartbeats 4000000 in
set_option maxRecDepth 100000 in
theorem same_any (M N : Nd) (u v : Value) (W : World) (hu : EntS W u M.ents) (hv : EntS W v N.ents) :
    Calls Try.prog 49 #[ndV M u, ndV N v] W fun e w' => e = .returned (.bool (sameB M N)) ∧ Fr No W w' := by
  have HU := Kp.mk hu
  have HV := Kp.mk hv
  obtain ⟨k, m, d, t, es⟩ := M
  obtain ⟨k', m', d', t', es'⟩ := N
  obtain ⟨x, hx⟩ : ∃ x, sameB ⟨k, m, d, t, es⟩ ⟨k', m', d', t', es'⟩ = x := ⟨_, rfl⟩
  rw [hx]
  have HX := Kp.mk hx
  clear hx hu hv
  go_enter Try.func49, Try.ntmps49
  go_wp2_with (first
    | ((with_reducible refine gate_dst (N := 2) rfl ?_); refine ev_box rfl 56 _ rfl _ rfl [.int .i64 k, .int .i64 m, .string d, .string t, u] rfl ?_; intro g2 w2 hg2 f2 b2)
    | ((with_reducible refine gate_dst (N := 3) rfl ?_); refine ev_box rfl 56 _ rfl _ rfl [.int .i64 k', .int .i64 m', .string d', .string t', v] rfl ?_; intro g3 w3 hg3 f3 b3; have c0 := (b2.no f3).at_ 0 rfl; have c1 := (b2.no f3).at_ 1 rfl; have c2 := (b2.no f3).at_ 2 rfl; have c3 := (b2.no f3).at_ 3 rfl; have c4 := (b2.no f3).at_ 4 rfl; have e0 := b3.at_ 0 rfl; have e1 := b3.at_ 1 rfl; have e2 := b3.at_ 2 rfl; have e3 := b3.at_ 3 rfl; have e4 := b3.at_ 4 rfl)
    | (go_at_call 86; refine (equal_any u v es es' _ (HU.out.no (f2.no f3)) (HV.out.no (f2.no f3))).mono ?_; rintro e w4 ⟨rfl, f4⟩))
  all_goals
    go_ret
    refine ⟨?_, by first | exact (f2.no f3) | exact (f2.no f3).no f4⟩
    rw [← HX.out]
    clear HX
    refine congrArg (fun b => Ending.returned (Value.bool b)) ?_
    simp only [sameB]
    simp_all
end Go.Proofs.Ytenlokbfjajbbaa.Nd
