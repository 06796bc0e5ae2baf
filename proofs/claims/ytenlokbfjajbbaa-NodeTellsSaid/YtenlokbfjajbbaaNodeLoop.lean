/- node.Parse's loop over the entries. Condition: the text's size is bounded, as written out. -/
import Derived.Test.YtenlokbfjajbbaaNodePrint
import Derived.Test.YtenlokbfjajbbaaNodePut
import Derived.Scope
import Derived.ScopeJumps
import Derived.Laws.BitsLemmas
set_option linter.unusedSimpArgs false
set_option linter.unusedVariables false
namespace Go.Proofs.Ytenlokbfjajbbaa.Nd
open Go Go.RowKit Go.Proofs.YtenlokbfjajbbaaW.PrintWords Go.Proofs.YtenlokbfjajbbaaW.PrintLast Go.Proofs.Ytenlokbfjajbbaa.Ev Go.Proofs.Ytenlokbfjajbbaa.Reg Go.Proofs.Ytenlokbfjajbbaa.Sb

theorem wraps_i64 (n : Int) (h0 : 0 ≤ n) (h1 : n < 2 ^ 40) : IntKind.i64.wrap n = n := by rw [IntKind.wrap_i64]; omega
theorem i64_or8 (x y : Int) (h0 : 0 ≤ x) (hx : x % 256 = 0) (h1 : x < 1099511627776) (h2 : 0 ≤ y) (h3 : y < 256) : bits .or .i64 x y = x + y := bits_join .i64 40 (by decide) wraps_i64 8 x y h0 hx h1 h2 h3 (by omega)
theorem i64_or16 (x y : Int) (h0 : 0 ≤ x) (hx : x % 65536 = 0) (h1 : x < 1099511627776) (h2 : 0 ≤ y) (h3 : y < 65536) : bits .or .i64 x y = x + y := bits_join .i64 40 (by decide) wraps_i64 16 x y h0 hx h1 h2 h3 (by omega)
theorem i64_or24 (x y : Int) (h0 : 0 ≤ x) (hx : x % 16777216 = 0) (h1 : x < 1099511627776) (h2 : 0 ≤ y) (h3 : y < 16777216) : bits .or .i64 x y = x + y := bits_join .i64 40 (by decide) wraps_i64 24 x y h0 hx h1 h2 h3 (by omega)
theorem sizeInt : (Try.prog.info? 3).map (·.size) = some 1 := by kernel_rfl

/-- An append as one step of a region that draws. -/
theorem step_append {P : Program} {ops : Array Oper} {o : Oper} {a : Act} {Q : Exit → Act → World → Prop} {W : World} {K : Act → World → Prop} {E : Prop} (hgd : o.guard = none) (s x : Operand) (t e : TypeId) (z : Value) (size bytes : Nat)
    (ho : o.op = .call { callee := .builtin .append, args := #[s, x], argTypes := #[t, t] })
    (ht : P.underlying t = some (.slice e)) (hinfo : (P.info? e).map (fun i => (i.zero, i.size, i.bytes)) = some (some z, size, bytes)) (hz : z.cells.size = size) (hsz : 0 < size) (hb0 : 0 < bytes)
    (base : Nat) (v : Value) (n : Nat) (xs : List Value) (hs : a.eval s = v) (hown : W.ownsRow base e size v n xs) (hbase : base ≤ W.heap.size)
    (ad : Addr) (m c : Nat) (news : List Value) (hx : a.eval x = .slice (some ad) m c) (hl : news.length = m * size) (hnews : ∀ j u, news[j]? = some u → W.cell? (ad.add j) = some u) (h1 : ∀ u ∈ news, u.oneCell' = true)
    (hbytes : (n + m) * bytes ≤ 140737488355328)
    (h : ∀ A c w1, w1.ownsRow base e size (.slice A (n + m) c) (n + m) (xs ++ news) → Fr (Own v) W w1 → ((Value.slice A (n + m) c).ownBlock = v.ownBlock ∨ (Value.slice A (n + m) c).ownBlock = some W.heap.size) → K (a.put o.dst (.slice A (n + m) c)) w1) :
    if Region.wanted o (yielded ops a.tmps) = true then Oper.wp P o a W K Q else E := by
  obtain ⟨i0, hi, hzz⟩ := Option.map_eq_some_iff.1 hinfo
  simp only [Prod.mk.injEq] at hzz
  obtain ⟨hz0, hz1, hz2⟩ := hzz
  have hlen : n + m ≤ 140737488355328 := Nat.le_trans (Nat.le_mul_of_pos_right _ hb0) hbytes
  obtain ⟨v1, w1, hr, hown1, hg, _, hat⟩ := run_append_own_at (P := P) W base t o.type e i0 z size bytes ht hi hz0 hz1 hz2 hz hsz v n xs hown ad m c news hl hnews h1 (by simp only [maxLen]; omega) hbytes hbase
  obtain ⟨A, c, rfl⟩ := own_slice hown1
  have hw : Region.wanted o (yielded ops a.tmps) = true := by simp [Region.wanted, hgd]
  rw [if_pos hw]
  have hrun : (execOp a.eval o).run P W = .ok (.value (.slice A (n + m) c)) w1 := by
    simp [execOp, ho, resolve, invoke, builtin, Sem.run_bind, Sem.run_pure, Result.andThen_ok, hs, hx, hr]
  unfold Oper.wp
  rw [hrun]
  exact h A c w1 hown1 (Fr.of_grown hg) hat
noncomputable def bodyParse : Code := Try.f39.body.getD .skip
theorem cut_entry (c : UInt8) (l : List UInt8) (h : c.toNat + 4 ≤ l.length) : ∃ nm p q r s l2, l = nm ++ p :: q :: r :: s :: l2 ∧ nm.length = c.toNat := by
  refine ⟨l.take c.toNat, (l.drop c.toNat).getD 0 0, (l.drop c.toNat).getD 1 0, (l.drop c.toNat).getD 2 0, (l.drop c.toNat).getD 3 0, l.drop (c.toNat + 4), ?_, by rw [List.length_take]; omega⟩
  have hd : ∃ p q r s l2, l.drop c.toNat = p :: q :: r :: s :: l2 := by
    have hlen : (l.drop c.toNat).length = l.length - c.toNat := List.length_drop
    match l.drop c.toNat, hlen with
    | p :: q :: r :: s :: l2, _ => exact ⟨p, q, r, s, l2, rfl⟩
    | [], h' => simp at h'; omega
    | [_], h' => simp at h'; omega
    | [_, _], h' => simp at h'; omega
    | [_, _, _], h' => simp at h'; omega
  obtain ⟨p, q, r, s, l2, hd⟩ := hd
  have h4 : l.drop (c.toNat + 4) = l2 := by rw [← List.drop_drop, hd]; rfl
  rw [h4, hd]
  simp only [List.getD_cons_zero, List.getD_cons_succ]
  rw [← hd, List.take_append_drop]
theorem parse_step (n : Nat) (c : UInt8) (nm : List UInt8) (p q r s : UInt8) (l2 : List UInt8) (h : nm.length = c.toNat) :
    parseE (n + 1) (c :: (nm ++ p :: q :: r :: s :: l2)) = (parseE n l2).map fun es => (bs nm, (p.toNat : Int) * 16777216 + (q.toNat : Int) * 65536 + (r.toNat : Int) * 256 + (s.toNat : Int)) :: es := by
  have h1 : ¬ (nm ++ p :: q :: r :: s :: l2).length < c.toNat + 4 := by simp; omega
  have h2 : (nm ++ p :: q :: r :: s :: l2).drop (c.toNat + 4) = l2 := by rw [← h, ← List.drop_drop, List.drop_left]; rfl
  have h3 : (nm ++ p :: q :: r :: s :: l2).take c.toNat = nm := by rw [← h, List.take_left]
  have h4 : (nm ++ p :: q :: r :: s :: l2).drop c.toNat = p :: q :: r :: s :: l2 := by rw [← h, List.drop_left]
  simp only [parseE, if_neg h1, h2, h3, h4, unb4, List.getD_cons_zero, List.getD_cons_succ]

set_option maxHeartbeats 8000000 in
set_option maxRecDepth 100000 in
theorem parse_loop (g2 g4 : Nat) (kk mm : Int) (d t : ByteArray) (R0 : List UInt8) (W : World) (u : Nat → Value) (hl : R0.length ≤ 1099511627776)
    (b4 : Blk W g4 56 (ndL kk mm d t (.slice none 0 0))) (Q : Exit → Act → World → Prop)
    (hPan : ∀ c (A B : Array Value) D w, Q (.panic c) { tmps := A, defers := D } w → Q (.panic c) { tmps := B, defers := D } w)
    (hQ : ∀ W' es v, parseE (R0.length + 1) R0 = some es → Fr (One g4) W W' → W'.ownsRow W.heap.size 75 2 v es.length (entsV es) → Blk W' g4 56 (ndL kk mm d t v) → ∀ u : Nat → Value, Q .normal { tmps := List.toArray (u 0 :: undef :: .pointer (some ⟨g2, 0, none⟩) :: u 3 :: .pointer (some ⟨g4, 0, none⟩) :: u 5 :: u 6 :: u 7 :: u 8 :: u 9 :: u 10 :: u 11 :: u 12 :: u 13 :: u 14 :: u 15 :: u 16 :: u 17 :: u 18 :: u 19 :: u 20 :: u 21 :: u 22 :: u 23 :: u 24 :: u 25 :: u 26 :: u 27 :: u 28 :: u 29 :: u 30 :: u 31 :: u 32 :: u 33 :: u 34 :: u 35 :: u 36 :: u 37 :: u 38 :: u 39 :: u 40 :: u 41 :: u 42 :: u 43 :: u 44 :: u 45 :: u 46 :: u 47 :: u 48 :: u 49 :: u 50 :: u 51 :: u 52 :: u 53 :: u 54 :: u 55 :: u 56 :: u 57 :: u 58 :: u 59 :: u 60 :: u 61 :: u 62 :: u 63 :: u 64 :: u 65 :: u 66 :: u 67 :: u 68 :: u 69 :: u 70 :: u 71 :: u 72 :: u 73 :: u 74 :: u 75 :: u 76 :: u 77 :: u 78 :: u 79 :: u 80 :: u 81 :: u 82 :: u 83 :: u 84 :: u 85 :: []), defers := [] } W')
    (hJ : ∀ W', parseE (R0.length + 1) R0 = none → Fr (One g4) W W' → ∀ u : Nat → Value, Q (.goto 0) { tmps := List.toArray (u 0 :: undef :: .pointer (some ⟨g2, 0, none⟩) :: u 3 :: .pointer (some ⟨g4, 0, none⟩) :: u 5 :: u 6 :: u 7 :: u 8 :: u 9 :: u 10 :: u 11 :: u 12 :: u 13 :: u 14 :: u 15 :: u 16 :: u 17 :: u 18 :: u 19 :: u 20 :: u 21 :: u 22 :: u 23 :: u 24 :: u 25 :: u 26 :: u 27 :: u 28 :: u 29 :: u 30 :: u 31 :: u 32 :: u 33 :: u 34 :: u 35 :: u 36 :: u 37 :: u 38 :: u 39 :: u 40 :: u 41 :: u 42 :: u 43 :: u 44 :: u 45 :: u 46 :: u 47 :: u 48 :: u 49 :: u 50 :: u 51 :: u 52 :: u 53 :: u 54 :: u 55 :: u 56 :: u 57 :: u 58 :: u 59 :: u 60 :: u 61 :: u 62 :: u 63 :: u 64 :: u 65 :: u 66 :: u 67 :: u 68 :: u 69 :: u 70 :: u 71 :: u 72 :: u 73 :: u 74 :: u 75 :: u 76 :: u 77 :: u 78 :: u 79 :: u 80 :: u 81 :: u 82 :: u 83 :: u 84 :: u 85 :: []), defers := [] } W') :
    Code.wp Try.prog (sub [1,0,1,1,1,1,1,0] bodyParse) Q { tmps := List.toArray (.string (bs R0) :: undef :: .pointer (some ⟨g2, 0, none⟩) :: u 3 :: .pointer (some ⟨g4, 0, none⟩) :: u 5 :: u 6 :: u 7 :: u 8 :: u 9 :: u 10 :: u 11 :: u 12 :: u 13 :: u 14 :: u 15 :: u 16 :: u 17 :: u 18 :: u 19 :: u 20 :: u 21 :: u 22 :: u 23 :: u 24 :: u 25 :: u 26 :: u 27 :: u 28 :: u 29 :: u 30 :: u 31 :: u 32 :: u 33 :: u 34 :: u 35 :: u 36 :: u 37 :: u 38 :: u 39 :: u 40 :: u 41 :: u 42 :: u 43 :: u 44 :: u 45 :: u 46 :: u 47 :: u 48 :: u 49 :: u 50 :: u 51 :: u 52 :: u 53 :: u 54 :: u 55 :: u 56 :: u 57 :: u 58 :: u 59 :: u 60 :: u 61 :: u 62 :: u 63 :: u 64 :: u 65 :: u 66 :: u 67 :: u 68 :: u 69 :: u 70 :: u 71 :: u 72 :: u 73 :: u 74 :: u 75 :: u 76 :: u 77 :: u 78 :: u 79 :: u 80 :: u 81 :: u 82 :: u 83 :: u 84 :: u 85 :: []), defers := [] } W := by
  conv => arg 2; whnf
  have HQ := Kp.mk hQ
  have HJ0 := Kp.mk hJ
  have HPan := Kp.mk hPan
  clear hQ hJ hPan
  have hg4 := b4.lt
  refine wp_block ?_
  refine wp_loop_ghost_k (fun n a' w' => ∃ (rest : List UInt8) (es : List Ent) (v : Value) (u : Nat → Value), (rest.length < n ∧ es.length + rest.length ≤ R0.length ∧ parseE (R0.length + 1) R0 = (parseE n rest).map (es ++ ·) ∧ Fr (One g4) W w' ∧ w'.ownsRow W.heap.size 75 2 v es.length (entsV es) ∧ Blk w' g4 56 (ndL kk mm d t v)) ∧ a' = { tmps := List.toArray (.string (bs rest) :: undef :: .pointer (some ⟨g2, 0, none⟩) :: u 3 :: .pointer (some ⟨g4, 0, none⟩) :: u 5 :: u 6 :: u 7 :: u 8 :: u 9 :: u 10 :: u 11 :: u 12 :: u 13 :: u 14 :: u 15 :: u 16 :: u 17 :: u 18 :: u 19 :: u 20 :: u 21 :: u 22 :: u 23 :: u 24 :: u 25 :: u 26 :: u 27 :: u 28 :: u 29 :: u 30 :: u 31 :: u 32 :: u 33 :: u 34 :: u 35 :: u 36 :: u 37 :: u 38 :: u 39 :: u 40 :: u 41 :: u 42 :: u 43 :: u 44 :: u 45 :: u 46 :: u 47 :: u 48 :: u 49 :: u 50 :: u 51 :: u 52 :: u 53 :: u 54 :: u 55 :: u 56 :: u 57 :: u 58 :: u 59 :: u 60 :: u 61 :: u 62 :: u 63 :: u 64 :: u 65 :: u 66 :: u 67 :: u 68 :: u 69 :: u 70 :: u 71 :: u 72 :: u 73 :: u 74 :: u 75 :: u 76 :: u 77 :: u 78 :: u 79 :: u 80 :: u 81 :: u 82 :: u 83 :: u 84 :: u 85 :: []), defers := [] }) (R0.length + 1) ⟨R0, [], .slice none 0 0, u, ⟨by omega, by simp, by simp, Fr.refl _ _, ⟨rfl, .inl ⟨rfl, rfl⟩⟩, b4⟩, rfl⟩ ?_
  rintro n a' w' ⟨rest, es, v, u, ⟨hn, hlen, hpar, f, ho, b⟩, rfl⟩ J K hJ hK
  have HJ := Kp.mk hJ
  have HK := Kp.mk hK
  have F := Kp.mk f
  have B := Kp.mk b
  have O := Kp.mk ho
  have HP := Kp.mk hpar
  have HN := Kp.mk hn
  clear hJ hK f b ho hpar hn
  cases rest with
  | nil =>
    have hz : (bs ([] : List UInt8)) = ({ data := #[] } : ByteArray) := rfl
    rw [hz]
    go_wp2_with fail
    obtain ⟨n1, rfl⟩ : ∃ n1, n = n1 + 1 := ⟨n - 1, by have := HN.out; simp at this; omega⟩
    have hes : parseE (R0.length + 1) R0 = some es := by rw [HP.out]; simp [parseE]
    exact K_u (HQ.out w' es v hes F.out O.out B.out) rfl
  | cons c l =>
    have hne : ¬ (bs (c :: l)) = ({ data := #[] } : ByteArray) := by intro h; have h2 := congrArg ByteArray.size h; rw [bs_size] at h2; simp [ByteArray.size] at h2
    have hcn := c.toNat_lt
    have hsz : (bs (c :: l)).size = l.length + 1 := by rw [bs_size]; rfl
    rw [List.length_cons] at hlen
    have hw0 : ∀ h, IntKind.i64.wrap ((((bs (c :: l))[0]'h).toNat : Nat) : Int) = (c.toNat : Int) := fun _ => wraps_i64 (c.toNat : Int) (by omega) (by omega)
    have hq0 : (0 : Int) < (l.length : Int) + 1 := by omega
    by_cases hlt : l.length < c.toNat + 4
    · have hlz : (l.length : Int) + 1 < 1 + (c.toNat : Int) + 4 := by omega
      go_wp2_with fail
      obtain ⟨n1, rfl⟩ : ∃ n1, n = n1 + 1 := ⟨n - 1, by have := HN.out; simp at this; omega⟩
      have hes : parseE (R0.length + 1) R0 = none := by rw [HP.out]; simp [parseE, hlt]
      refine wp_goto ?_
      simp only [Exit.then, Exit.inBlock]
      exact K_u (HJ0.out w' hes F.out) rfl
    · have hlz : ¬ (l.length : Int) + 1 < 1 + (c.toNat : Int) + 4 := by omega
      obtain ⟨nm, p, q, r, s, l2, hcut, hnm⟩ := cut_entry c l (by omega)
      have hll : l.length = c.toNat + 4 + l2.length := by rw [hcut]; simp; omega
      have hpn := p.toNat_lt
      have hqn := q.toNat_lt
      have hrn := r.toNat_lt
      have hsn := s.toNat_lt
      have hs1 : ∀ W', (Instr.slice 9 (.string (bs (c :: l))) (some (.int .i64 (1 + (c.toNat : Int)))) (some (.int .i64 (1 + (c.toNat : Int) + 4))) none).run Try.prog W' = .ok (.string (bs [p, q, r, s])) W' := fun W' => by
        rw [run_slice_string W' 9 (bs (c :: l)) .i64 .i64 _ _ Try.underlying9 (by omega) (by omega) (by omega)]
        rw [show bs (c :: l) = ByteArray.mk (c :: l).toArray from rfl, ByteArray.extract_mk, show (1 + (c.toNat : Int)).toNat = c.toNat + 1 by omega, show (1 + (c.toNat : Int) + 4).toNat = c.toNat + 5 by omega, List.drop_succ_cons, hcut, ← hnm, List.drop_left, show nm.length + 5 - (nm.length + 1) = 4 by omega]
        rfl
      have hs2 : ∀ W', (Instr.slice 9 (.string (bs (c :: l))) (some (.int .i64 1)) (some (.int .i64 (1 + (c.toNat : Int)))) none).run Try.prog W' = .ok (.string (bs nm)) W' := fun W' => by
        rw [run_slice_string W' 9 (bs (c :: l)) .i64 .i64 _ _ Try.underlying9 (by omega) (by omega) (by omega)]
        rw [show bs (c :: l) = ByteArray.mk (c :: l).toArray from rfl, ByteArray.extract_mk, show (1 + (c.toNat : Int)).toNat = c.toNat + 1 by omega, show (1 : Int).toNat = 1 from rfl, List.drop_succ_cons, List.drop_zero, hcut, ← hnm, show nm.length + 1 - 1 = nm.length by omega, List.take_left]
      have hs3 : ∀ W', (Instr.slice 9 (.string (bs (c :: l))) (some (.int .i64 (1 + (c.toNat : Int) + 4))) none none).run Try.prog W' = .ok (.string (bs l2)) W' := fun W' => by
        rw [run_slice_string_l W' 9 (bs (c :: l)) Try.underlying9 .i64 _ (by omega) (by omega)]
        rw [show bs (c :: l) = ByteArray.mk (c :: l).toArray from rfl, ByteArray.extract_mk, show (1 + (c.toNat : Int) + 4).toNat = c.toNat + 5 by omega, List.drop_succ_cons, show (ByteArray.mk (c :: l).toArray).size = l.length + 1 from hsz, hll, hcut, ← hnm, ← List.drop_drop, List.drop_left, List.take_of_length_le (by simp)]
        rfl
      have hw4 : ∀ h, IntKind.i64.wrap ((((bs [p, q, r, s])[0]'h).toNat : Nat) : Int) = (p.toNat : Int) := fun _ => wraps_i64 (p.toNat : Int) (by omega) (by omega)
      have hw5 : ∀ h, IntKind.i64.wrap ((((bs [p, q, r, s])[1]'h).toNat : Nat) : Int) = (q.toNat : Int) := fun _ => wraps_i64 (q.toNat : Int) (by omega) (by omega)
      have hw6 : ∀ h, IntKind.i64.wrap ((((bs [p, q, r, s])[2]'h).toNat : Nat) : Int) = (r.toNat : Int) := fun _ => wraps_i64 (r.toNat : Int) (by omega) (by omega)
      have hw7 : ∀ h, IntKind.i64.wrap ((((bs [p, q, r, s])[3]'h).toNat : Nat) : Int) = (s.toNat : Int) := fun _ => wraps_i64 (s.toNat : Int) (by omega) (by omega)
      have hm1 : IntKind.i64.wrap ((p.toNat : Int) * 16777216) = (p.toNat : Int) * 16777216 := wraps_i64 _ (by omega) (by omega)
      have hm2 : IntKind.i64.wrap ((q.toNat : Int) * 65536) = (q.toNat : Int) * 65536 := wraps_i64 _ (by omega) (by omega)
      have hm3 : IntKind.i64.wrap ((r.toNat : Int) * 256) = (r.toNat : Int) * 256 := wraps_i64 _ (by omega) (by omega)
      have ho1 : bits BinOp.or IntKind.i64 ((p.toNat : Int) * 16777216) ((q.toNat : Int) * 65536) = (p.toNat : Int) * 16777216 + (q.toNat : Int) * 65536 := i64_or24 _ _ (by omega) (by omega) (by omega) (by omega) (by omega)
      have ho2 : bits BinOp.or IntKind.i64 ((p.toNat : Int) * 16777216 + (q.toNat : Int) * 65536) ((r.toNat : Int) * 256) = (p.toNat : Int) * 16777216 + (q.toNat : Int) * 65536 + (r.toNat : Int) * 256 := i64_or16 _ _ (by omega) (by omega) (by omega) (by omega) (by omega)
      have ho3 : bits BinOp.or IntKind.i64 ((p.toNat : Int) * 16777216 + (q.toNat : Int) * 65536 + (r.toNat : Int) * 256) (s.toNat : Int) = (p.toNat : Int) * 16777216 + (q.toNat : Int) * 65536 + (r.toNat : Int) * 256 + (s.toNat : Int) := i64_or8 _ _ (by omega) (by omega) (by omega) (by omega) (by omega)
      have h4z : ((bs [p, q, r, s]).size : Int) = 4 := by rw [bs_size]; rfl
      have HCUT := Kp.mk hcut
      have HNM := Kp.mk hnm
      clear hcut hnm
      go_wp2_with fail
      refine start_ (n := 28) (S := fun w'' => w''.cell? ⟨g4, 4, none⟩ = some v) (ds := [27]) #[false, false, false, false, false, false, false, false, false, false, false, false, false, false, false, false, false, false, false, false, false, false, false, false, false, false, false, false] (by kernel_rfl) rfl rfl ((Blk.drew B.out).at_ 4 rfl) (fun hHeld => ?_)
      refine pure_ (i := 0) (N := some 51) (v := ?_) (a' := ?_) #[true, false, false, false, false, false, false, false, false, false, false, false, false, false, false, false, false, false, false, false, false, false, false, false, false, false, false, false] rfl rfl (by kernel_rfl) (fun _ _ _ h => HPan.out _ _ _ _ _ h) (Or.inl ⟨by rfl, ?_⟩) ?_ ?_
      rotate_left
      · intro w'
        go_simp
        with_reducible rfl
      rotate_left
      · simp only [Act.put, List.setIfInBounds_toArray, List.set_cons_zero, List.set_cons_succ]
        rfl
      refine take_ (i := 1) (N := some 52) (v := ?_) (a' := ?_) #[true, true, false, false, false, false, false, false, false, false, false, false, false, false, false, false, false, false, false, false, false, false, false, false, false, false, false, false] rfl rfl (by kernel_rfl) (fun _ _ _ h => HPan.out _ _ _ _ _ h) (Or.inl ⟨by rfl, ?_⟩) hHeld ?_ ?_
      rotate_left
      · rintro w' s0
        go_simp
        with_reducible rfl
      rotate_left
      · simp only [Act.put, List.setIfInBounds_toArray, List.set_cons_zero, List.set_cons_succ]
        rfl
      refine pure_ (i := 2) (N := some 53) (v := ?_) (a' := ?_) #[true, true, true, false, false, false, false, false, false, false, false, false, false, false, false, false, false, false, false, false, false, false, false, false, false, false, false, false] rfl rfl (by kernel_rfl) (fun _ _ _ h => HPan.out _ _ _ _ _ h) (Or.inl ⟨by rfl, ?_⟩) ?_ ?_
      rotate_left
      · intro w'
        go_simp
        with_reducible rfl
      rotate_left
      · simp only [Act.put, List.setIfInBounds_toArray, List.set_cons_zero, List.set_cons_succ]
        rfl
      refine pure_ (i := 3) (N := some 54) (v := ?_) (a' := ?_) #[true, true, true, true, false, false, false, false, false, false, false, false, false, false, false, false, false, false, false, false, false, false, false, false, false, false, false, false] rfl rfl (by kernel_rfl) (fun _ _ _ h => HPan.out _ _ _ _ _ h) (Or.inl ⟨by rfl, ?_⟩) ?_ ?_
      rotate_left
      · intro w'
        go_simp
        with_reducible rfl
      rotate_left
      · simp only [Act.put, List.setIfInBounds_toArray, List.set_cons_zero, List.set_cons_succ]
        rfl
      refine pure_ (i := 4) (N := some 55) (v := ?_) (a' := ?_) #[true, true, true, true, true, false, false, false, false, false, false, false, false, false, false, false, false, false, false, false, false, false, false, false, false, false, false, false] rfl rfl (by kernel_rfl) (fun _ _ _ h => HPan.out _ _ _ _ _ h) (Or.inl ⟨by rfl, ?_⟩) ?_ ?_
      rotate_left
      · intro w'
        go_simp
        with_reducible rfl
      rotate_left
      · simp only [Act.put, List.setIfInBounds_toArray, List.set_cons_zero, List.set_cons_succ]
        rfl
      refine pure_ (i := 5) (N := some 56) (v := ?_) (a' := ?_) #[true, true, true, true, true, true, false, false, false, false, false, false, false, false, false, false, false, false, false, false, false, false, false, false, false, false, false, false] rfl rfl (by kernel_rfl) (fun _ _ _ h => HPan.out _ _ _ _ _ h) (Or.inl ⟨by rfl, ?_⟩) ?_ ?_
      rotate_left
      · intro w'
        go_simp
        with_reducible rfl
      rotate_left
      · simp only [Act.put, List.setIfInBounds_toArray, List.set_cons_zero, List.set_cons_succ]
        rfl
      refine pure_ (i := 6) (N := some 57) (v := ?_) (a' := ?_) #[true, true, true, true, true, true, true, false, false, false, false, false, false, false, false, false, false, false, false, false, false, false, false, false, false, false, false, false] rfl rfl (by kernel_rfl) (fun _ _ _ h => HPan.out _ _ _ _ _ h) (Or.inl ⟨by rfl, ?_⟩) ?_ ?_
      rotate_left
      · intro w'
        go_simp
        with_reducible rfl
      rotate_left
      · simp only [Act.put, List.setIfInBounds_toArray, List.set_cons_zero, List.set_cons_succ]
        rfl
      refine pure_ (i := 7) (N := some 58) (v := ?_) (a' := ?_) #[true, true, true, true, true, true, true, true, false, false, false, false, false, false, false, false, false, false, false, false, false, false, false, false, false, false, false, false] rfl rfl (by kernel_rfl) (fun _ _ _ h => HPan.out _ _ _ _ _ h) (Or.inl ⟨by rfl, ?_⟩) ?_ ?_
      rotate_left
      · intro w'
        go_simp
        with_reducible rfl
      rotate_left
      · simp only [Act.put, List.setIfInBounds_toArray, List.set_cons_zero, List.set_cons_succ]
        rfl
      refine pure_ (i := 8) (N := some 59) (v := ?_) (a' := ?_) #[true, true, true, true, true, true, true, true, true, false, false, false, false, false, false, false, false, false, false, false, false, false, false, false, false, false, false, false] rfl rfl (by kernel_rfl) (fun _ _ _ h => HPan.out _ _ _ _ _ h) (Or.inl ⟨by rfl, ?_⟩) ?_ ?_
      rotate_left
      · intro w'
        go_simp
        with_reducible rfl
      rotate_left
      · simp only [Act.put, List.setIfInBounds_toArray, List.set_cons_zero, List.set_cons_succ]
        rfl
      refine pure_ (i := 9) (N := some 60) (v := ?_) (a' := ?_) #[true, true, true, true, true, true, true, true, true, true, false, false, false, false, false, false, false, false, false, false, false, false, false, false, false, false, false, false] rfl rfl (by kernel_rfl) (fun _ _ _ h => HPan.out _ _ _ _ _ h) (Or.inl ⟨by rfl, ?_⟩) ?_ ?_
      rotate_left
      · intro w'
        go_simp
        with_reducible rfl
      rotate_left
      · simp only [Act.put, List.setIfInBounds_toArray, List.set_cons_zero, List.set_cons_succ]
        rfl
      refine pure_ (i := 10) (N := some 61) (v := ?_) (a' := ?_) #[true, true, true, true, true, true, true, true, true, true, true, false, false, false, false, false, false, false, false, false, false, false, false, false, false, false, false, false] rfl rfl (by kernel_rfl) (fun _ _ _ h => HPan.out _ _ _ _ _ h) (Or.inl ⟨by rfl, ?_⟩) ?_ ?_
      rotate_left
      · intro w'
        go_simp
        with_reducible rfl
      rotate_left
      · simp only [Act.put, List.setIfInBounds_toArray, List.set_cons_zero, List.set_cons_succ]
        rfl
      refine pure_ (i := 11) (N := some 62) (v := ?_) (a' := ?_) #[true, true, true, true, true, true, true, true, true, true, true, true, false, false, false, false, false, false, false, false, false, false, false, false, false, false, false, false] rfl rfl (by kernel_rfl) (fun _ _ _ h => HPan.out _ _ _ _ _ h) (Or.inl ⟨by rfl, ?_⟩) ?_ ?_
      rotate_left
      · intro w'
        go_simp
        with_reducible rfl
      rotate_left
      · simp only [Act.put, List.setIfInBounds_toArray, List.set_cons_zero, List.set_cons_succ]
        rfl
      refine pure_ (i := 12) (N := some 63) (v := ?_) (a' := ?_) #[true, true, true, true, true, true, true, true, true, true, true, true, true, false, false, false, false, false, false, false, false, false, false, false, false, false, false, false] rfl rfl (by kernel_rfl) (fun _ _ _ h => HPan.out _ _ _ _ _ h) (Or.inl ⟨by rfl, ?_⟩) ?_ ?_
      rotate_left
      · intro w'
        go_simp
        with_reducible rfl
      rotate_left
      · simp only [Act.put, List.setIfInBounds_toArray, List.set_cons_zero, List.set_cons_succ]
        rfl
      refine pure_ (i := 13) (N := some 64) (v := ?_) (a' := ?_) #[true, true, true, true, true, true, true, true, true, true, true, true, true, true, false, false, false, false, false, false, false, false, false, false, false, false, false, false] rfl rfl (by kernel_rfl) (fun _ _ _ h => HPan.out _ _ _ _ _ h) (Or.inl ⟨by rfl, ?_⟩) ?_ ?_
      rotate_left
      · intro w'
        go_simp
        with_reducible rfl
      rotate_left
      · simp only [Act.put, List.setIfInBounds_toArray, List.set_cons_zero, List.set_cons_succ]
        rfl
      refine pure_ (i := 14) (N := some 65) (v := ?_) (a' := ?_) #[true, true, true, true, true, true, true, true, true, true, true, true, true, true, true, false, false, false, false, false, false, false, false, false, false, false, false, false] rfl rfl (by kernel_rfl) (fun _ _ _ h => HPan.out _ _ _ _ _ h) (Or.inl ⟨by rfl, ?_⟩) ?_ ?_
      rotate_left
      · intro w'
        go_simp
        with_reducible rfl
      rotate_left
      · simp only [Act.put, List.setIfInBounds_toArray, List.set_cons_zero, List.set_cons_succ]
        rfl
      refine pure_ (i := 15) (N := some 66) (v := ?_) (a' := ?_) #[true, true, true, true, true, true, true, true, true, true, true, true, true, true, true, true, false, false, false, false, false, false, false, false, false, false, false, false] rfl rfl (by kernel_rfl) (fun _ _ _ h => HPan.out _ _ _ _ _ h) (Or.inl ⟨by rfl, ?_⟩) ?_ ?_
      rotate_left
      · intro w'
        go_simp
        with_reducible rfl
      rotate_left
      · simp only [Act.put, List.setIfInBounds_toArray, List.set_cons_zero, List.set_cons_succ]
        rfl
      refine pure_ (i := 16) (N := some 67) (v := ?_) (a' := ?_) #[true, true, true, true, true, true, true, true, true, true, true, true, true, true, true, true, true, false, false, false, false, false, false, false, false, false, false, false] rfl rfl (by kernel_rfl) (fun _ _ _ h => HPan.out _ _ _ _ _ h) (Or.inl ⟨by rfl, ?_⟩) ?_ ?_
      rotate_left
      · intro w'
        go_simp
        with_reducible rfl
      rotate_left
      · simp only [Act.put, List.setIfInBounds_toArray, List.set_cons_zero, List.set_cons_succ]
        rfl
      refine pure_ (i := 17) (N := some 68) (v := ?_) (a' := ?_) #[true, true, true, true, true, true, true, true, true, true, true, true, true, true, true, true, true, true, false, false, false, false, false, false, false, false, false, false] rfl rfl (by kernel_rfl) (fun _ _ _ h => HPan.out _ _ _ _ _ h) (Or.inl ⟨by rfl, ?_⟩) ?_ ?_
      rotate_left
      · intro w'
        go_simp
        with_reducible rfl
      rotate_left
      · simp only [Act.put, List.setIfInBounds_toArray, List.set_cons_zero, List.set_cons_succ]
        rfl
      refine pure_ (i := 18) (N := some 69) (v := ?_) (a' := ?_) #[true, true, true, true, true, true, true, true, true, true, true, true, true, true, true, true, true, true, true, false, false, false, false, false, false, false, false, false] rfl rfl (by kernel_rfl) (fun _ _ _ h => HPan.out _ _ _ _ _ h) (Or.inl ⟨by rfl, ?_⟩) ?_ ?_
      rotate_left
      · intro w'
        go_simp
        with_reducible rfl
      rotate_left
      · simp only [Act.put, List.setIfInBounds_toArray, List.set_cons_zero, List.set_cons_succ]
        rfl
      refine pure_ (i := 19) (N := some 70) (v := ?_) (a' := ?_) #[true, true, true, true, true, true, true, true, true, true, true, true, true, true, true, true, true, true, true, true, false, false, false, false, false, false, false, false] rfl rfl (by kernel_rfl) (fun _ _ _ h => HPan.out _ _ _ _ _ h) (Or.inl ⟨by rfl, ?_⟩) ?_ ?_
      rotate_left
      · intro w'
        go_simp
        with_reducible rfl
      rotate_left
      · simp only [Act.put, List.setIfInBounds_toArray, List.set_cons_zero, List.set_cons_succ]
        rfl
      refine pure_ (i := 20) (N := some 71) (v := ?_) (a' := ?_) #[true, true, true, true, true, true, true, true, true, true, true, true, true, true, true, true, true, true, true, true, true, false, false, false, false, false, false, false] rfl rfl (by kernel_rfl) (fun _ _ _ h => HPan.out _ _ _ _ _ h) (Or.inl ⟨by rfl, ?_⟩) ?_ ?_
      rotate_left
      · intro w'
        go_simp
        with_reducible rfl
      rotate_left
      · simp only [Act.put, List.setIfInBounds_toArray, List.set_cons_zero, List.set_cons_succ]
        rfl
      refine pure_ (i := 21) (N := some 72) (v := ?_) (a' := ?_) #[true, true, true, true, true, true, true, true, true, true, true, true, true, true, true, true, true, true, true, true, true, true, false, false, false, false, false, false] rfl rfl (by kernel_rfl) (fun _ _ _ h => HPan.out _ _ _ _ _ h) (Or.inl ⟨by rfl, ?_⟩) ?_ ?_
      rotate_left
      · intro w'
        go_simp
        with_reducible rfl
      rotate_left
      · simp only [Act.put, List.setIfInBounds_toArray, List.set_cons_zero, List.set_cons_succ]
        rfl
      refine pure_ (i := 22) (N := some 73) (v := ?_) (a' := ?_) #[true, true, true, true, true, true, true, true, true, true, true, true, true, true, true, true, true, true, true, true, true, true, true, false, false, false, false, false] rfl rfl (by kernel_rfl) (fun _ _ _ h => HPan.out _ _ _ _ _ h) (Or.inl ⟨by rfl, ?_⟩) ?_ ?_
      rotate_left
      · intro w'
        go_simp
        with_reducible rfl
      rotate_left
      · simp only [Act.put, List.setIfInBounds_toArray, List.set_cons_zero, List.set_cons_succ]
        rfl
      refine pure_ (i := 23) (N := some 74) (v := ?_) (a' := ?_) #[true, true, true, true, true, true, true, true, true, true, true, true, true, true, true, true, true, true, true, true, true, true, true, true, false, false, false, false] rfl rfl (by kernel_rfl) (fun _ _ _ h => HPan.out _ _ _ _ _ h) (Or.inl ⟨by rfl, ?_⟩) ?_ ?_
      rotate_left
      · intro w'
        go_simp
        with_reducible rfl
      rotate_left
      · simp only [Act.put, List.setIfInBounds_toArray, List.set_cons_zero, List.set_cons_succ]
        rfl
      refine one_ (i := 24) (N := some 75) #[true, true, true, true, true, true, true, true, true, true, true, true, true, true, true, true, true, true, true, true, true, true, true, true, true, false, false, false] rfl rfl (by kernel_rfl) (by decide) (fun K hK => ?_)
      refine value_ (w1 := ?_) (v := ?_) (by rfl) rfl ?_ ?_
      rotate_left 2
      · go_simp
        constructor
        · rfl
        · rfl
      refine hK.out _ _ (Fr.cell hHeld (Fr.alloc _ _) (fun h => h)) (fun hHeld => ?_)
      clear hK K
      refine norm_ (a' := ?_) ?_ ?_
      rotate_left
      · simp only [Act.put, List.setIfInBounds_toArray, List.set_cons_zero, List.set_cons_succ]
        rfl
      refine one_ (i := 25) (N := some 76) #[true, true, true, true, true, true, true, true, true, true, true, true, true, true, true, true, true, true, true, true, true, true, true, true, true, true, false, false] rfl rfl (by kernel_rfl) (by decide) (fun K hK => ?_)
      refine step_append rfl _ _ 54 75 _ 2 24 rfl Try.underlying54 infoE rfl (by omega) (by omega) W.heap.size v es.length (entsV es) rfl (own_no O.out ((Fr.alloc w' _).drew)) (Nat.le_trans F.out.size ((Fr.alloc w' _).drew).size) ⟨w'.heap.size, 0, none⟩ 1 1 (entV (bs nm, (p.toNat : Int) * 16777216 + (q.toNat : Int) * 65536 + (r.toNat : Int) * 256 + (s.toNat : Int))) rfl rfl (news_blk (Blk.drew (Blk.new w' 75 (entV (bs nm, (p.toNat : Int) * 16777216 + (q.toNat : Int) * 65536 + (r.toNat : Int) * 256 + (s.toNat : Int)))))) (fun x hx => entsV_one [(bs nm, (p.toNat : Int) * 16777216 + (q.toNat : Int) * 65536 + (r.toNat : Int) * 256 + (s.toNat : Int))] x (by simpa [entsV] using hx)) (by omega) ?_
      intro A1 c1 w1 O1 f1 hat1
      have hno : ¬ Own v g4 := fun h => by have := own_new_base O.out g4 h; omega
      have B1 : Blk w1 g4 56 (ndL kk mm d t v) := (B.out.no ((Fr.alloc w' _).drew)).keep f1 hno
      refine hK.out _ _ (Fr.cell hHeld f1 hno) (fun hHeld => ?_)
      clear hK K
      refine norm_ (a' := ?_) ?_ ?_
      rotate_left
      · simp only [Act.put, List.setIfInBounds_toArray, List.set_cons_zero, List.set_cons_succ]
        rfl
      refine pure_ (i := 26) (N := some 77) (v := ?_) (a' := ?_) #[true, true, true, true, true, true, true, true, true, true, true, true, true, true, true, true, true, true, true, true, true, true, true, true, true, true, true, false] rfl rfl (by kernel_rfl) (fun _ _ _ h => HPan.out _ _ _ _ _ h) (Or.inl ⟨by rfl, ?_⟩) ?_ ?_
      rotate_left
      · intro w'
        go_simp
        with_reducible rfl
      rotate_left
      · simp only [Act.put, List.setIfInBounds_toArray, List.set_cons_zero, List.set_cons_succ]
        rfl
      refine last_ (i := 27) (N := none) #[true, true, true, true, true, true, true, true, true, true, true, true, true, true, true, true, true, true, true, true, true, true, true, true, true, true, true, true] rfl rfl (by kernel_rfl) (by decide) (fun K hK => ?_)
      refine step_store rfl 54 _ _ rfl g4 4 (.slice A1 (es.length + 1) c1) rfl rfl rfl 56 _ B1 (by simp) sizeEs ?_
      intro w2 f2 b2
      refine hK.out _ _ ?_
      clear hK K
      refine done_ (by kernel_rfl) ?_
      go_wp2_with fail
      obtain ⟨n1, rfl⟩ : ∃ n1, n = n1 + 1 := ⟨n - 1, by have := HN.out; rw [List.length_cons] at this; omega⟩
      have hF : Fr (One g4) W w2 := ((F.out.no ((Fr.alloc w' _).drew)).trans f1 (fun i h => .inr (own_new_base O.out i h))).trans f2 (fun i h => .inl h)
      have hO : w2.ownsRow W.heap.size 75 2 (.slice A1 (es.length + 1) c1) (es ++ [(bs nm, (p.toNat : Int) * 16777216 + (q.toNat : Int) * 65536 + (r.toNat : Int) * 256 + (s.toNat : Int))]).length (entsV (es ++ [(bs nm, (p.toNat : Int) * 16777216 + (q.toNat : Int) * 65536 + (r.toNat : Int) * 256 + (s.toNat : Int))])) := by
        have h := own_keep O1 f2 (fun k hk hh => by have h1 := own_new_base O1 k hk; have h2 : k = g4 := hh; omega)
        rw [entsV_append, List.length_append, List.length_singleton]
        have he : entsV [(bs nm, (p.toNat : Int) * 16777216 + (q.toNat : Int) * 65536 + (r.toNat : Int) * 256 + (s.toNat : Int))] = entV (bs nm, (p.toNat : Int) * 16777216 + (q.toNat : Int) * 65536 + (r.toNat : Int) * 256 + (s.toNat : Int)) := by simp [entsV]
        rw [he]
        exact h
      have hP : parseE (R0.length + 1) R0 = (parseE n1 l2).map ((es ++ [(bs nm, (p.toNat : Int) * 16777216 + (q.toNat : Int) * 65536 + (r.toNat : Int) * 256 + (s.toNat : Int))]) ++ ·) := by
        rw [HP.out, HCUT.out, parse_step n1 c nm p q r s l2 HNM.out, Option.map_map]
        congr 1
        funext x
        simp
      have hL : (es ++ [(bs nm, (p.toNat : Int) * 16777216 + (q.toNat : Int) * 65536 + (r.toNat : Int) * 256 + (s.toNat : Int))]).length + l2.length ≤ R0.length := by rw [List.length_append, List.length_singleton]; omega
      have hN1 : l2.length < n1 := by have := HN.out; rw [List.length_cons] at this; omega
      refine HK.out _ _ (Handed.intro n1 (by omega) (HJ.out _ _ _ ⟨l2, _, _, ex_u ⟨hN1, hL, hP, hF, hO, b2⟩ rfl⟩))
end Go.Proofs.Ytenlokbfjajbbaa.Nd
