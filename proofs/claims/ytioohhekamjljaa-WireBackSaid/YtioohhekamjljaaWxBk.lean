/- Texts joined by merge.py: ChBts, WireFewIs, WiBack, WireBackL, WireBack, WireOpen, WireBackRow. -/
import Derived.Test.YtioohhekamjljaaOwn
import Derived.Test.YtioohhekamjljaaSum
import Derived.Test.YtioohhekamjljaaWxE
import Derived.Test.YtioohhekamjljaaProg
import Derived.Deep.Slices
import Derived.Deep.Fields
import Derived.ChangeSame
import Derived.Lib.SmallJoins
import Derived.Test.YtioohhekamjljaaRows
import Derived.ProofKit
import Derived.Carry
import Derived.SizedLaws
/- Bytes converted from a text: a row whose mark lies behind its cells; appended to, stored into, read as a text. No conditions beside those written out. -/
set_option linter.unusedSimpArgs false
set_option linter.unusedVariables false
namespace Go.Proofs.Ytioohhekamjljaa.Ev
open Go Go.RowKit Go.Proofs.Ytioohhekamjljaa.Sha Go.Proofs.YtioohhekamjljaaW.PrintWords Go.Proofs.Ytioohhekamjljaa.Dig

abbrev u8c (l : List UInt8) : List Value := l.map fun b => Value.int .u8 b.toNat
/-- A row of bytes of which no cell is frozen. -/
structure Bts (w : World) (base : Nat) (e : TypeId) (g cap : Nat) (l : List UInt8) : Prop where
  lo : base ≤ g
  ex : ∃ cur fz, w.heap[g]? = some (.cells cur e fz) ∧ (fz.2 ≤ fz.1 ∨ cap ≤ fz.1) ∧ l.length ≤ cap ∧ cap ≤ maxLen ∧ cur.size = cap ∧ cur.toList.take l.length = u8c l

section
variable {w w1 : World} {base : Nat} {e : TypeId} {g cap : Nat} {l : List UInt8} {S : Nat → Prop}
theorem Bts.lt (h : Bts w base e g cap l) : g < w.heap.size := by
  obtain ⟨cur, fz, hg, _⟩ := h.ex
  exact (Array.getElem?_eq_some_iff.1 hg).1
theorem Bts.keep (h : Bts w base e g cap l) (f : Fr S w w1) (hn : ¬ S g) : Bts w1 base e g cap l := by
  obtain ⟨cur, fz, hg, r⟩ := h.ex
  exact ⟨h.lo, cur, fz, Fr.obj hg f hn, r⟩
theorem Bts.no (h : Bts w base e g cap l) (f : Fr No w w1) : Bts w1 base e g cap l := h.keep f (fun hh => hh)
theorem Bts.cell (h : Bts w base e g cap l) (i : Nat) (b : UInt8) (hb : l[i]? = some b) : w.cell? ⟨g, i, none⟩ = some (.int .u8 (b.toNat : Int)) := by
  obtain ⟨cur, fz, hg, _, hl, _, hs, ht⟩ := h.ex
  obtain ⟨hi, hb'⟩ := List.getElem?_eq_some_iff.1 hb
  rw [cell_of_row w g i cur e fz hg]
  have : (cur.toList.take l.length)[i]? = some (.int .u8 (b.toNat : Int)) := by rw [ht, List.getElem?_map, hb]; rfl
  rw [List.getElem?_take_of_lt hi] at this
  simpa using this
theorem Bts.free (h : Bts w base e g cap l) (i : Nat) (hi : i < cap) : w.frozen? ⟨g, i, none⟩ = false := by
  obtain ⟨cur, ⟨lo, hi'⟩, hg, hf, _⟩ := h.ex
  simp only [World.frozen?, hg, Bool.and_eq_false_iff, decide_eq_false_iff_not]
  simp only at hf
  omega
theorem Bts.set (h : Bts w base e g cap l) (i : Nat) (b : UInt8) (hi : i < l.length) : Bts (w.setCell ⟨g, i, none⟩ (.int .u8 (b.toNat : Int))) base e g cap (l.set i b) := by
  obtain ⟨cur, fz, hg, hf, hl, hm, hs, ht⟩ := h.ex
  refine ⟨h.lo, cur.setIfInBounds i (.int .u8 (b.toNat : Int)), fz, ?_, hf, by simpa using hl, hm, by simpa using hs, ?_⟩
  · rw [setCell_eq_setRow w g i cur e fz _ hg]
    exact setRow_heap w g cur _ e fz hg
  · rw [Array.toList_setIfInBounds, List.length_set, List.take_set, ht]
    simp [u8c, List.map_set]
/-- One byte more, where there is room. -/
theorem Bts.more (h : Bts w base e g cap l) (b : UInt8) (hi : l.length < cap) : Bts (w.setCell ⟨g, l.length, none⟩ (.int .u8 (b.toNat : Int))) base e g cap (l ++ [b]) := by
  obtain ⟨cur, fz, hg, hf, hl, hm, hs, ht⟩ := h.ex
  refine ⟨h.lo, cur.setIfInBounds l.length (.int .u8 (b.toNat : Int)), fz, ?_, hf, by simp; omega, hm, by simpa using hs, ?_⟩
  · rw [setCell_eq_setRow w g l.length cur e fz _ hg]
    exact setRow_heap w g cur _ e fz hg
  · have hc : l.length < cur.toList.length := by simp only [Array.length_toList]; omega
    rw [Array.toList_setIfInBounds, List.length_append, List.length_singleton, List.take_add_one, List.take_set, ht, List.getElem?_set_self hc]
    rw [List.set_eq_of_length_le (by simp)]
    simp [u8c]
theorem Bts.at_room (h : Bts w base e g cap l) (hi : l.length < cap) : ∃ v, w.cell? ⟨g, l.length, none⟩ = some v := by
  obtain ⟨cur, fz, hg, hf, hl, hm, hs, ht⟩ := h.ex
  rw [cell_of_row w g l.length cur e fz hg]
  have hlt : l.length < cur.size := by omega
  exact ⟨cur[l.length], Array.getElem?_eq_getElem hlt⟩
end

section
variable {P : Program} {ops : Array Oper} {rest : List Oper} {o : Oper} {a : Act} {Q : Exit → Act → World → Prop} {W : World}

/-- '[]byte(s)'. -/
theorem ev_bts (hgd : o.guard = none) (src dst : TypeId) (x : Operand) (ho : o.op = .convert src dst x) (l : List UInt8) (hx : a.eval x = .string (bs l)) {u : TypeDesc} (e : TypeId)
    (hs : P.underlying src = some u) (hd : P.underlying dst = some (.slice e)) (he : P.underlying e = some (.int .u8)) (hm : l.length ≤ maxLen)
    (h : ∀ g c w1, Fr No W w1 → Bts w1 W.heap.size e g c l → wpList P ops Q rest (a.put o.dst (.slice (some ⟨g, 0, none⟩) l.length c)) w1) : wpList P ops Q (o :: rest) a W := by
  have hz : (bs l).size = l.length := bs_size l
  have hr := Lib.run_convert_string_bytes (P := P) W src dst e (bs l) hs hd he
  rw [hz] at hr
  have hge := grownCap_ge W l.length 0 e
  refine run_value hgd (w1 := Lib.bytesWorld W e (bs l)) (v := .slice (some ⟨W.heap.size, 0, none⟩) l.length (grownCap W l.length 0 e)) ?_ (h _ _ _
    (Fr.of_below ⟨rfl, rfl, rfl, by rw [Lib.bytesWorld_size]; omega, fun i hi => Lib.bytesWorld_at_old W e (bs l) i (by omega)⟩) ⟨Nat.le_refl _, _, _, Lib.bytesWorld_at_new W e (bs l), ?_, hge, grownCap_le_maxLen W _ 0 e hm, ?_, ?_⟩)
  · simp [execOp, ho, hx, hr, Sem.run_bind, Result.andThen]
  · right
    simp only [Lib.bytesCells, Array.size_append, Array.size_map, Array.size_replicate, hz]
    have : l.toArray.size = l.length := by simp
    have : (bs l).data.size = l.length := hz
    omega
  · simp only [Lib.bytesCells, Array.size_append, Array.size_map, Array.size_replicate, hz]
    have : l.toArray.size = l.length := by simp
    have : (bs l).data.size = l.length := hz
    omega
  · have : ((bs l).data.map fun b => Value.int .u8 (b.toNat : Int)).toList = u8c l := by simp [u8c, bs]
    rw [Lib.bytesCells, Array.toList_append, this, List.take_left' (by simp)]

/-- 'append(b, 0)'. -/
theorem ev_nought (hgd : o.guard = none) (s x : Operand) (t e : TypeId)
    (ho : o.op = .call { callee := .builtin .append, args := #[s, x], argTypes := #[t, t] })
    (ht : P.underlying t = some (.slice e)) (hinfo : (P.info? e).map (fun i => (i.zero, i.size, i.bytes)) = some (some (.int .u8 0), 1, 1))
    (base g cap : Nat) (l : List UInt8) (n : Nat) (hn : n = l.length) (hs : a.eval s = .slice (some ⟨g, 0, none⟩) n cap) (hB : Bts W base e g cap l) (hbase : base ≤ W.heap.size)
    (gl : Nat) (b : UInt8) (hx : a.eval x = .slice (some ⟨gl, 0, none⟩) 1 1) (hnew : Blk W gl e [.int .u8 (b.toNat : Int)]) (hl : l.length < 140737488355328)
    (h : ∀ g' c w1, Bts w1 base e g' c (l ++ [b]) → Fr (One g) W w1 → wpList P ops Q rest (a.put o.dst (.slice (some ⟨g', 0, none⟩) (n + 1) c)) w1) : wpList P ops Q (o :: rest) a W := by
  subst hn
  obtain ⟨i0, hi, hzz⟩ := Option.map_eq_some_iff.1 hinfo
  simp only [Prod.mk.injEq] at hzz
  obtain ⟨hz0, hz1, hz2⟩ := hzz
  have hnews : ∀ j v, [Value.int .u8 (b.toNat : Int)][j]? = some v → W.cell? ((⟨gl, 0, none⟩ : Addr).add j) = some v := news_blk hnew
  by_cases hroom : l.length + 1 ≤ cap
  · obtain ⟨v0, hv0⟩ := hB.at_room (by omega)
    have hf := run_firstCells_some (P := P) W 1 1 ⟨gl, 0, none⟩ 1 1 [.int .u8 (b.toNat : Int)] rfl hnews
    have hst : (store ⟨g, l.length, none⟩ (.int .u8 (b.toNat : Int))).run P W = .ok () (W.setCell ⟨g, l.length, none⟩ (.int .u8 (b.toNat : Int))) := by
      rw [run_store P W ⟨g, l.length, none⟩ _ .plain rfl]
      simp [hv0, hB.free l.length (by omega)]
    have hr : (Builtin.append_ #[t, t] o.type #[.slice (some ⟨g, 0, none⟩) l.length cap, .slice (some ⟨gl, 0, none⟩) 1 1]).run P W = .ok (.slice (some ⟨g, 0, none⟩) (l.length + 1) cap) (W.setCell ⟨g, l.length, none⟩ (.int .u8 (b.toNat : Int))) := by
      simp [Builtin.append_, run_underlying ht, sizeOf, typeInfo, hi, hz1, Builtin.lenOf, hroom, hf, Addr.add_lit, storeCells, hst]
    refine run_value hgd ?_ (h g cap _ (hB.more b (by omega)) (Fr.setCell _ _ _ _))
    simp [execOp, ho, resolve, invoke, builtin, Sem.run_bind, Sem.run_pure, Result.andThen_ok, hs, hx, hr]
  · have holds : ∀ j v, (u8c l)[j]? = some v → W.cell? ((⟨g, 0, none⟩ : Addr).add j) = some v := fun j v hv => by
      rw [Addr.add_lit, Nat.zero_add]
      obtain ⟨b', hb', rfl⟩ := Option.map_eq_some_iff.1 ((List.getElem?_map ..).symm.trans hv)
      exact hB.cell j b' hb'
    have hr := run_append_grow (P := P) W t o.type e i0 (.int .u8 0) ht hi hz0 ⟨g, 0, none⟩ l.length cap (u8c l) (by rw [hz1]; simp) holds ⟨gl, 0, none⟩ 1 1 [.int .u8 (b.toNat : Int)] (by rw [hz1]; rfl) hnews (by omega) (by omega) (growslice_fits (by omega) (by rw [hz2]; omega))
    have hge := grownCap_ge W (l.length + 1) cap e
    have hmx : grownCap W (l.length + 1) cap e ≤ maxLen := grownCap_le_maxLen W (l.length + 1) cap e (by simp only [maxLen]; omega)
    have hbel : ∀ x, Below W.heap.size W (W.drew.alloc x) := fun x => ⟨rfl, rfl, rfl, by simp, fun k hk => heap_alloc_old W.drew x hk⟩
    refine run_value hgd ?_ (h W.heap.size (grownCap W (l.length + 1) cap e) (W.drew.alloc (.cells ((u8c l).toArray ++ [Value.int .u8 (b.toNat : Int)].toArray ++ Builtin.zeroCells (Value.int .u8 0).cells (grownCap W (l.length + 1) cap e - (l.length + 1))) e)) ⟨hbase, _, _, heap_alloc_new W.drew _, .inl (Nat.le_refl _), by simpa using hge, hmx, ?_, ?_⟩ ((Fr.of_below (hbel _)).mono (fun i h => h.elim)))
    · simp [execOp, ho, resolve, invoke, builtin, Sem.run_bind, Sem.run_pure, Result.andThen_ok, hs, hx, hr]
    · have hz1' : (Value.int IntKind.u8 0).cells.size = 1 := rfl
      simp only [Array.size_append, List.size_toArray, size_zeroCells, hz1', List.length_map, List.length_singleton]
      omega
    · simp only [Array.toList_append, List.append_assoc]
      rw [← List.append_assoc]
      have : u8c l ++ [.int .u8 (b.toNat : Int)] = u8c (l ++ [b]) := by simp [u8c]
      rw [this, List.take_left' (by simp)]

/-- 'b[i] = x'. -/
theorem ev_btset (hgd : o.guard = none) (ty : TypeId) (x y : Operand) (ho : o.op = .store ty x y) (base : Nat) (e : TypeId) (g cap i : Nat) (l : List UInt8) (b : UInt8) (hx : a.eval x = .pointer (some ⟨g, i, none⟩)) (hy : a.eval y = .int .u8 (b.toNat : Int))
    (hB : Bts W base e g cap l) (hil : i < l.length) (hi : (P.info? ty).map (·.size) = some 1)
    (h : ∀ w1, Fr (One g) W w1 → Bts w1 base e g cap (l.set i b) → wpList P ops Q rest (a.put o.dst undef) w1) : wpList P ops Q (o :: rest) a W := by
  have hc := hB.cell i l[i] (List.getElem?_eq_getElem hil)
  have hcap : l.length ≤ cap := by obtain ⟨cur, fz, _, _, hl, _⟩ := hB.ex; exact hl
  have hf := hB.free i (by omega)
  have hsz : (sizeOf ty).run P W = .ok 1 W := by
    obtain ⟨q, hq, hq1⟩ := Option.map_eq_some_iff.1 hi
    simp [sizeOf, typeInfo, hq, hq1]
  have hadd : (⟨g, i, none⟩ : Addr).add 0 = ⟨g, i, none⟩ := by unfold Addr.add; split <;> simp_all
  have hst : (store ⟨g, i, none⟩ (.int .u8 (b.toNat : Int))).run P W = .ok () (W.setCell ⟨g, i, none⟩ (.int .u8 (b.toNat : Int))) := by
    rw [run_store P W ⟨g, i, none⟩ _ .plain rfl]
    simp [hc, hf]
  have hcells : (Value.int .u8 (b.toNat : Int)).cells = #[.int .u8 (b.toNat : Int)] := rfl
  refine run_skip hgd (w1 := W.setCell ⟨g, i, none⟩ (.int .u8 (b.toNat : Int))) ?_ (h _ (Fr.setCell _ _ _ _) (hB.set i b hil))
  simp [execOp, ho, hx, hy, Instr.storeAt, Instr.sureAddr, storeVar, hcells, hsz, storeCells, hadd, hst, Sem.run_bind, Result.andThen]

/-- 'string(b)'. -/
theorem ev_btstr (hgd : o.guard = none) (src dst e : TypeId) (x : Operand) (ho : o.op = .convert src dst x)
    (hs : P.underlying src = some (.slice e)) (he : P.underlying e = some (.int .u8)) (hd : P.underlying dst = some .string)
    (base : Nat) (e' : TypeId) (g cap n : Nat) (l : List UInt8) (hn : n = l.length) (hx : a.eval x = .slice (some ⟨g, 0, none⟩) n cap) (hB : Bts W base e' g cap l)
    (h : wpList P ops Q rest (a.put o.dst (.string (bs l))) W) : wpList P ops Q (o :: rest) a W := by
  subst hn
  have hr := run_convert_bytes_arg (P := P) W src e hs he g 0 l.length cap (l.map fun b => (b.toNat : Int)) (by simp) (fun i hi => by
    rw [Nat.zero_add, hB.cell i l[i] (List.getElem?_eq_getElem hi)]
    simp [List.getD_eq_getElem?_getD, hi]) dst hd
  rw [strOf_bytes] at hr
  refine run_value hgd ?_ h
  simp [execOp, ho, hx, hr, Sem.run_bind, Result.andThen]
end
end Go.Proofs.Ytioohhekamjljaa.Ev

/- The law's own Few, as a contract for all places of a slice. No conditions beside those written out. -/
set_option linter.unusedSimpArgs false
set_option linter.unusedVariables false
namespace Go.Proofs.Ytioohhekamjljaa.Wk
open Go Go.RowKit Go.Proofs.YtioohhekamjljaaW.PrintWords Go.Proofs.YtioohhekamjljaaW.PrintLast Go.Proofs.Ytioohhekamjljaa.Ev Go.Proofs.Ytioohhekamjljaa.Reg Go.Proofs.Ytioohhekamjljaa.Sha Go.Proofs.Ytioohhekamjljaa.Sb Go.Proofs.Ytioohhekamjljaa.Crc Go.Proofs.Ytioohhekamjljaa.Wi
theorem few_is (l : List Cm) (hl : l.length ≤ 9223372036854775807) : ∃ z, (z = true → l.length ≤ 150) ∧ ∀ (A : Option Addr) (cap : Nat) (w : World), CmS w A l → l.length ≤ cap → Calls Try.prog 8 #[.slice A l.length cap] w fun e w' => e = .returned (.bool z) ∧ Fr No w w' := by
  obtain ⟨z, e, hz⟩ := few_l0 (l.map toS) (by rw [List.length_map]; exact hl) l.length (l.length + 1) 0 0 (by decide) (by decide) (by decide) (by rw [List.length_map]; omega) (by omega)
  refine ⟨z, fun h => by have := hz h; omega, fun A cap w h hc => ?_⟩
  have := PWireTells.snapferrylaw13_Few.calls (l.length + 1) A cap (l.map toS) z w (c58_of h hl) (by rw [List.length_map]; exact hc) e
  rw [List.length_map] at this
  exact this.mono fun e' w' ⟨h1, h2⟩ => ⟨h1, Fr.of_below h2⟩
end Go.Proofs.Ytioohhekamjljaa.Wk

/- A stream's records found, and a stream of which bits were turned; no program in sight. No conditions beside those written out. -/
set_option linter.unusedSimpArgs false
set_option linter.unusedVariables false
namespace Go.Proofs.Ytioohhekamjljaa.Wk
open Go.Proofs.Ytioohhekamjljaa.Crc Go.Proofs.Ytioohhekamjljaa.Wi

/-- What a stream answers that is told to be wrong. -/
theorem dec_wrong {s : B} {e : Nat} (hl : s.length ≤ 65536) (h : (stepsT dg s).2.2 = e) (he : e ≠ 0) : decV s = (zeroH, [], (e : Int)) := by
  obtain ⟨g1, g2, g3, g4, g5⟩ := feed_fed (fed_new dg) s (by show 0 + _ ≤ _; omega)
  have ha : Rd0.all ++ s = s := rfl
  rw [ha, h] at g2
  unfold decV
  rw [g2, if_pos he]
theorem dec_behind {h : Hd} {l : List Cm} (k : OkS dg h l) (hl : (streamP dg h l).length ≤ 65536) : ∃ e : Int, e ≠ 0 ∧ decV (streamP dg h l ++ [120]) = (zeroH, [], e) := by
  by_cases h1 : (streamP dg h l).length = 65536
  · refine ⟨3, by decide, ?_⟩
    have : feedP dg Rd0 (streamP dg h l ++ [120]) = ({ Rd0 with err := 3 }, [], 3) := by
      unfold feedP
      rw [if_neg (by decide), if_pos (by rw [List.length_append, h1]; decide)]
    unfold decV
    rw [this]
    rfl
  · exact ⟨17, by decide, dec_wrong (by rw [List.length_append, List.length_singleton]; omega) (tells_behind k (by decide)) (by decide)⟩

/-- Where a record begins. -/
def offR (L : List Rc) (n : Nat) : Nat := (flatR (L.take n)).length
theorem off_0 (L : List Rc) : offR L 0 = 0 := rfl
theorem off_succ {L : List Rc} {n : Nat} {x : Rc} (h : L[n]? = some x) : offR L (n + 1) = offR L n + (11 + x.pay.length) := by
  unfold offR
  rw [List.take_add_one, h, flat_append, List.length_append]
  show _ + (recB x ++ []).length = _
  rw [List.append_nil, rec_len]
theorem off_all (L : List Rc) : offR L L.length = (flatR L).length := by unfold offR; rw [List.take_length]
theorem off_split {L : List Rc} {n : Nat} {x : Rc} (h : L[n]? = some x) : flatR L = flatR (L.take n) ++ (recB x ++ flatR (L.drop (n + 1))) ∧ L = L.take n ++ x :: L.drop (n + 1) := by
  obtain ⟨hn, hx⟩ := List.getElem?_eq_some_iff.1 h
  have h2 : L = L.take n ++ x :: L.drop (n + 1) := by
    rw [← hx, ← List.drop_eq_getElem_cons hn, List.take_append_drop]
  refine ⟨?_, h2⟩
  conv => lhs; rw [h2]
  rw [flat_append]
  rfl
theorem off_len {L : List Rc} {n : Nat} {x : Rc} (h : L[n]? = some x) (ho : x.pay.length ≤ 8192) {p q : UInt8} (hp : (flatR L)[offR L n + 5]? = some p) (hq : (flatR L)[offR L n + 6]? = some q) : p.toNat * 256 + q.toNat = x.pay.length := by
  have hl := lenS_rec x ho
  have hr := rec_len x
  obtain ⟨hs, _⟩ := off_split h
  rw [hs] at hp hq
  rw [show offR L n = (flatR (L.take n)).length from rfl] at hp hq
  rw [List.getElem?_append_right (by omega), Nat.add_sub_cancel_left, List.getElem?_append_left (by omega)] at hp hq
  unfold lenS at hl
  rw [hp, hq] at hl
  exact hl
theorem off_le (L : List Rc) (n : Nat) (hn : n < L.length) : offR L n + 11 ≤ (flatR L).length := by
  obtain ⟨hs, _⟩ := off_split (List.getElem?_eq_getElem hn)
  have := congrArg List.length hs
  rw [List.length_append, List.length_append, rec_len] at this
  unfold offR
  omega
/-- The record that was found. -/
structure Fnd (L : List Rc) (n b e k : Nat) : Prop where
  le : n ≤ L.length
  e : e = offR L n
  b0 : n = 0 → b = 0
  b1 : ∀ m, n = m + 1 → b = offR L m ∧ b ≤ k
theorem fnd_0 (L : List Rc) (k : Nat) : Fnd L 0 0 0 k := ⟨Nat.zero_le _, rfl, fun _ => rfl, fun m h => by omega⟩
theorem Fnd.more {L : List Rc} {n b e k : Nat} (h : Fnd L n b e k) (hk : k < (flatR L).length) (he : e ≤ k) : n < L.length := by
  have h1 := h.le
  have h2 := h.e
  have h3 := off_all L
  rcases Nat.lt_or_ge n L.length with h4 | h4
  · exact h4
  · obtain rfl : n = L.length := by omega
    omega
theorem Fnd.next {L : List Rc} {n b e k : Nat} (h : Fnd L n b e k) (hn : n < L.length) (he : e ≤ k) (ho : ∀ x ∈ L, x.pay.length ≤ 8192) {p q : UInt8} (hp : (flatR L)[e + 5]? = some p) (hq : (flatR L)[e + 6]? = some q) :
    Fnd L (n + 1) e (e + 11 + p.toNat * 256 + q.toNat) k := by
  have hx := List.getElem?_eq_getElem hn
  have e1 := h.e
  rw [e1] at hp hq
  have := off_len hx (ho _ (List.getElem_mem hn)) hp hq
  have h2 := off_succ hx
  exact ⟨hn, by omega, fun h0 => by omega, fun m hm => (show m = n by omega) ▸ ⟨e1, he⟩⟩
theorem Fnd.got {L : List Rc} {n b e k : Nat} (h : Fnd L n b e k) (he : k < e) : ∃ m x, n = m + 1 ∧ L[m]? = some x ∧ b = offR L m ∧ b ≤ k ∧ e = b + (11 + x.pay.length) := by
  cases n with
  | zero =>
    have := h.e
    rw [off_0] at this
    omega
  | succ m =>
    have h1 := h.le
    obtain ⟨h2, h3⟩ := h.b1 m rfl
    have hx := List.getElem?_eq_getElem (l := L) (i := m) (by omega)
    have h4 := off_succ hx
    have := h.e
    exact ⟨m, _, rfl, hx, h2, h3, by omega⟩

theorem Fnd.le_all {L : List Rc} {n b e k : Nat} (h : Fnd L n b e k) : e ≤ (flatR L).length := by
  rw [h.e]
  unfold offR
  conv => rhs; rw [← List.take_append_drop n L]
  rw [flat_append, List.length_append]
  omega
/-- A text of which bits from k on were turned. -/
structure Trn (s : B) (pb pe k i : Nat) (t : B) (b : Bool) : Prop where
  ex : ∃ m : Nat → UInt8, t = (List.range s.length).map (fun j => s.getD j 0 ^^^ m j) ∧ (∀ j, m j ≠ 0 → k ≤ j ∧ j < k + 4 ∧ j < pe ∧ j ≠ pb + 5 ∧ j ≠ pb + 6) ∧ (∀ j, k ≤ j → (m j).toNat < 2 ^ (i - 8 * (j - k))) ∧ (b = true ↔ ∃ j, m j ≠ 0)
theorem xor_0 (a : UInt8) : a ^^^ 0 = a := by simp
theorem same_map (s : B) : (List.range s.length).map (fun j => s.getD j 0 ^^^ (0 : UInt8)) = s := by
  apply List.ext_getElem?
  intro i
  rw [List.getElem?_map]
  rcases Nat.lt_or_ge i s.length with h | h
  · rw [List.getElem?_range h, List.getElem?_eq_getElem h]
    simp [List.getD_eq_getElem?_getD, h]
  · rw [List.getElem?_eq_none (by simpa using h), List.getElem?_eq_none h]
    rfl
theorem trn_0 (s : B) (pb pe k : Nat) : Trn s pb pe k 0 s false := ⟨fun _ => 0, (same_map s).symm, fun j h => absurd rfl h, fun j _ => Nat.two_pow_pos _, by simp⟩
theorem Trn.len {s : B} {pb pe k i : Nat} {t : B} {b : Bool} (h : Trn s pb pe k i t b) : t.length = s.length := by
  obtain ⟨m, rfl, _⟩ := h.ex
  simp
theorem Trn.skip {s : B} {pb pe k i : Nat} {t : B} {b : Bool} (h : Trn s pb pe k i t b) : Trn s pb pe k (i + 1) t b := by
  obtain ⟨m, h1, h2, h3, h4⟩ := h.ex
  exact ⟨m, h1, h2, fun j hj => Nat.lt_of_lt_of_le (h3 j hj) (Nat.pow_le_pow_right (by decide) (by omega)), h4⟩
theorem bit_toNat {c : Nat} (h : c < 8) : (UInt8.ofNat (2 ^ c)).toNat = 2 ^ c := by
  have h2 : 2 ^ c < 2 ^ 8 := Nat.pow_lt_pow_right (by decide) h
  simp only [UInt8.toNat_ofNat']
  exact Nat.mod_eq_of_lt h2
theorem Trn.turn {s : B} {pb pe k i : Nat} {t : B} {b : Bool} (h : Trn s pb pe k i t b) (hi : i < 32) (he : k + i / 8 < pe) (hs : pe ≤ s.length) (h5 : k + i / 8 ≠ pb + 5) (h6 : k + i / 8 ≠ pb + 6) {c : UInt8} (hc : t[k + i / 8]? = some c) :
    Trn s pb pe k (i + 1) (t.set (k + i / 8) (c ^^^ UInt8.ofNat (2 ^ (i % 8)))) true := by
  obtain ⟨m, h1, h2, h3, h4⟩ := h.ex
  have hb := bit_toNat (Nat.mod_lt i (by decide : 0 < 8))
  have hx : (m (k + i / 8)).toNat < 2 ^ (i % 8) := by
    have := h3 (k + i / 8) (by omega)
    rw [show i - 8 * (k + i / 8 - k) = i % 8 by omega] at this
    exact this
  have hne : m (k + i / 8) ^^^ UInt8.ofNat (2 ^ (i % 8)) ≠ 0 := by
    intro hh
    have h0 : m (k + i / 8) = UInt8.ofNat (2 ^ (i % 8)) := by
      have := congrArg (· ^^^ UInt8.ofNat (2 ^ (i % 8))) hh
      simpa [UInt8.xor_assoc] using this
    rw [h0, hb] at hx
    omega
  have hlt : (m (k + i / 8) ^^^ UInt8.ofNat (2 ^ (i % 8))).toNat < 2 ^ (i % 8 + 1) := by
    rw [UInt8.toNat_xor, hb]
    exact Nat.xor_lt_two_pow (Nat.lt_trans hx (Nat.pow_lt_pow_right (by decide) (by omega))) (Nat.pow_lt_pow_right (by decide) (by omega))
  refine ⟨fun j => if j = k + i / 8 then m j ^^^ UInt8.ofNat (2 ^ (i % 8)) else m j, ?_, ?_, ?_, ?_⟩
  · subst h1
    have hlt : k + i / 8 < s.length := by omega
    rw [List.getElem?_map, List.getElem?_range hlt] at hc
    injection hc with hc
    apply List.ext_getElem?
    intro j
    rw [List.getElem?_set, List.getElem?_map, List.getElem?_map, List.length_map, List.length_range]
    by_cases hj : k + i / 8 = j
    · subst hj
      rw [if_pos rfl, if_pos hlt, List.getElem?_range hlt, ← hc]
      simp [UInt8.xor_assoc]
    · rw [if_neg hj]
      rcases Nat.lt_or_ge j s.length with h | h
      · rw [List.getElem?_range h]
        simp only [Option.map_some]
        rw [if_neg (fun hh => hj hh.symm)]
      · rw [List.getElem?_eq_none (by simpa using h)]
        rfl
  · intro j hj
    by_cases e : j = k + i / 8
    · subst e
      exact ⟨by omega, by omega, he, h5, h6⟩
    · simp only [if_neg e] at hj
      exact h2 j hj
  · intro j hj
    by_cases e : j = k + i / 8
    · subst e
      simp only [if_true]
      rw [show i + 1 - 8 * (k + i / 8 - k) = i % 8 + 1 by omega]
      exact hlt
    · simp only [if_neg e]
      exact Nat.lt_of_lt_of_le (h3 j hj) (Nat.pow_le_pow_right (by decide) (by omega))
  · refine ⟨fun _ => ⟨k + i / 8, by simp only [if_true]; exact hne⟩, fun _ => rfl⟩
/-- What a turned stream answers. -/
theorem dec_trn {h : Hd} {l : List Cm} (K : OkS dg h l) (hl : (streamP dg h l).length ≤ 65536) {n pb pe k i : Nat} (hk : k < pe) (F : Fnd (allR dg h l) n pb pe k) {t : B} {b : Bool} (T : Trn (streamP dg h l) pb pe k i t b) :
    ∃ V, decV t = V ∧ (b = false → V = (h, l, 0)) ∧ (b = true → V = (zeroH, [], 8)) := by
  refine ⟨_, rfl, fun hb => ?_, fun hb => ?_⟩
  · obtain ⟨m, h1, h2, h3, h4⟩ := T.ex
    have h0 : ∀ j, m j = 0 := fun j => by
      rcases Classical.em (m j = 0) with hh | hh
      · exact hh
      · have := h4.2 ⟨j, hh⟩
        rw [hb] at this
        cases this
    have : t = streamP dg h l := by
      rw [h1, show (fun j => (streamP dg h l).getD j 0 ^^^ m j) = (fun j => (streamP dg h l).getD j 0 ^^^ (0 : UInt8)) from funext fun j => by rw [h0 j], same_map]
    rw [this]
    exact dec_stream K hl
  · have hlen := T.len
    obtain ⟨m, h1, h2, h3, h4⟩ := T.ex
    obtain ⟨j0, hj0⟩ := h4.1 hb
    obtain ⟨q, x, rfl, hx, hpb, hle, hpe⟩ := F.got hk
    obtain ⟨hs, hsp⟩ := off_split hx
    have hr := rec_len x
    refine dec_wrong (e := 8) (by omega) ?_ (by decide)
    have hz : ∀ j, ¬ (k ≤ j ∧ j < k + 4 ∧ j < pe ∧ j ≠ pb + 5 ∧ j ≠ pb + 6) → m j = 0 := fun j hj => Classical.byContradiction fun hh => hj (h2 j hh)
    have ht : t = flatR ((allR dg h l).take q) ++ (xorL (recB x) ((List.range (recB x).length).map (fun j => m (pb + j))) ++ flatR ((allR dg h l).drop (q + 1))) := by
      have hsl : (streamP dg h l).length = offR (allR dg h l) q + ((recB x).length + (flatR ((allR dg h l).drop (q + 1))).length) := by
        have := congrArg List.length hs
        rw [List.length_append, List.length_append] at this
        exact this
      have hxl : (xorL (recB x) ((List.range (recB x).length).map (fun j => m (pb + j)))).length = (recB x).length := xorL_len _ _ (by simp)
      rw [h1]
      apply List.ext_getElem?
      intro j
      rw [List.getElem?_map]
      rcases Nat.lt_or_ge j (streamP dg h l).length with hj | hj
      · rw [List.getElem?_range hj]
        simp only [Option.map_some]
        have hgd : (streamP dg h l).getD j 0 = (flatR ((allR dg h l).take q) ++ (recB x ++ flatR ((allR dg h l).drop (q + 1)))).getD j 0 := by
          rw [← hs]
          rfl
        rw [hgd, List.getD_eq_getElem?_getD]
        have ho : offR (allR dg h l) q = (flatR ((allR dg h l).take q)).length := rfl
        rcases Nat.lt_or_ge j (flatR ((allR dg h l).take q)).length with c1 | c1
        · rw [List.getElem?_append_left c1, List.getElem?_append_left c1, hz j (by omega), xor_0, List.getElem?_eq_getElem c1]
          rfl
        · rw [List.getElem?_append_right c1, List.getElem?_append_right c1]
          rcases Nat.lt_or_ge (j - (flatR ((allR dg h l).take q)).length) (recB x).length with c2 | c2
          · rw [List.getElem?_append_left c2, List.getElem?_append_left (by omega)]
            unfold xorL
            rw [List.getElem?_zipWith, List.getElem?_map, List.getElem?_range c2, List.getElem?_eq_getElem c2]
            simp only [Option.map_some, Option.getD_some]
            rw [show pb + (j - (flatR ((allR dg h l).take q)).length) = j by omega]
          · rw [List.getElem?_append_right c2, List.getElem?_append_right (by omega), hz j (by omega), xor_0, hxl]
            rw [List.getElem?_eq_getElem (by omega)]
            rfl
      · rw [List.getElem?_eq_none (by simpa using hj), List.getElem?_eq_none (by rw [List.length_append, List.length_append, hxl]; have : offR (allR dg h l) q = (flatR ((allR dg h l).take q)).length := rfl; omega)]
        rfl
    rw [ht]
    have hd : ∃ r, (List.range (recB x).length).map (fun j => m (pb + j)) = List.replicate (k - pb) 0 ++ (List.range (min 4 (pe - k))).map (fun j => m (k + j)) ++ List.replicate r 0 := by
      refine ⟨(recB x).length - (k - pb) - min 4 (pe - k), ?_⟩
      apply List.ext_getElem?
      intro j
      rw [List.getElem?_map]
      have hll : ((List.range (min 4 (pe - k))).map (fun j => m (k + j))).length = min 4 (pe - k) := by simp
      rcases Nat.lt_or_ge j (recB x).length with hj | hj
      · rw [List.getElem?_range hj]
        simp only [Option.map_some]
        rcases Nat.lt_or_ge j (k - pb) with c1 | c1
        · rw [List.append_assoc, List.getElem?_append_left (by simpa using c1), List.getElem?_replicate, if_pos c1, hz _ (by omega)]
        · rcases Nat.lt_or_ge (j - (k - pb)) (min 4 (pe - k)) with c2 | c2
          · rw [List.getElem?_append_left (by rw [List.length_append, List.length_replicate, hll]; omega), List.getElem?_append_right (by simpa using c1), List.length_replicate, List.getElem?_map, List.getElem?_range c2]
            simp only [Option.map_some]
            rw [show k + (j - (k - pb)) = pb + j by omega]
          · rw [List.getElem?_append_right (by rw [List.length_append, List.length_replicate, hll]; omega), List.getElem?_replicate, if_pos (by rw [List.length_append, List.length_replicate, hll]; omega), hz _ (by omega)]
      · rw [List.getElem?_eq_none (by simpa using hj), List.getElem?_eq_none (by rw [List.length_append, List.length_append, List.length_replicate, hll, List.length_replicate]; omega)]
        rfl
    obtain ⟨r, hd⟩ := hd
    have c0 := h2 j0 hj0
    refine tells_turned K hsp (e := (List.range (recB x).length).map (fun j => m (pb + j))) (by simp) ?_ ?_ hd (by rw [List.length_map, List.length_range]; omega) ⟨m j0, ?_, hj0⟩
    · rw [List.getElem?_map, List.getElem?_range (by omega)]
      simp only [Option.map_some]
      rw [hz _ (by omega)]
    · rw [List.getElem?_map, List.getElem?_range (by omega)]
      simp only [Option.map_some]
      rw [hz _ (by omega)]
    · exact List.mem_map.2 ⟨j0 - k, List.mem_range.2 (by omega), by rw [show k + (j0 - k) = j0 by omega]⟩
end Go.Proofs.Ytioohhekamjljaa.Wk

/- WireBack's loops. Conditions: sizes are bounded, as written out. -/
set_option linter.unusedSimpArgs false
set_option linter.unusedVariables false
namespace Go.Proofs.Ytioohhekamjljaa.Wk
open Go Go.RowKit Go.Proofs.YtioohhekamjljaaW.PrintWords Go.Proofs.YtioohhekamjljaaW.PrintLast Go.Proofs.Ytioohhekamjljaa.Ev Go.Proofs.Ytioohhekamjljaa.Reg Go.Proofs.Ytioohhekamjljaa.Sha Go.Proofs.Ytioohhekamjljaa.Sb Go.Proofs.Ytioohhekamjljaa.Crc Go.Proofs.Ytioohhekamjljaa.Wi
noncomputable def bodyBack : Code := Try.f5.body.getD .skip
theorem ex_u3 {A : Array Value} {mk : (Nat → Value) → Nat → Nat → Array Value} {p : Prop} {q : Prop} {r : Nat → Nat → Prop} {b e : Nat} (hp : p) (hq : q) (hr : r b e) (h : mk (fun i => A.getD i undef) b e = A) :
    ∃ (u : Nat → Value) (b e : Nat), p ∧ q ∧ r b e ∧ ({ tmps := A, defers := [] } : Act) = { tmps := mk u b e, defers := [] } := ⟨_, b, e, hp, hq, hr, by rw [h]⟩
theorem ex_u4 {A : Array Value} {mk : (Nat → Value) → Bool → Array Value} {p : Prop} {q : Prop} {r : B → Prop} {z : B → Bool → Prop} {t : B} {b : Bool} (hp : p) (hq : q) (hr : r t) (hz : z t b) (h : mk (fun i => A.getD i undef) b = A) :
    ∃ (u : Nat → Value) (t : B) (b : Bool), p ∧ q ∧ r t ∧ z t b ∧ ({ tmps := A, defers := [] } : Act) = { tmps := mk u b, defers := [] } := ⟨_, t, b, hp, hq, hr, hz, by rw [h]⟩
set_option maxHeartbeats 8000000 in
set_option maxRecDepth 100000 in
theorem back_loop1 (W : World) (u : Nat → Value) (tu : Int) (s : B) (L : List Rc) (k : Nat) (hs : s = flatR L) (hl : s.length ≤ 65536) (hk : k < s.length) (ho : ∀ x ∈ L, x.pay.length ≤ 8192)
    (Q : Exit → Act → World → Prop) (hQ : ∀ (u : Nat → Value) (n b e : Nat) ws, Fr No W ws → Fnd L n b e k → k < e → Q .normal { tmps := List.toArray (u 0 :: u 1 :: u 2 :: u 3 :: .int .u32 tu :: u 5 :: u 6 :: u 7 :: u 8 :: u 9 :: u 10 :: .string (bs s) :: u 12 :: u 13 :: u 14 :: u 15 :: u 16 :: u 17 :: u 18 :: u 19 :: u 20 :: u 21 :: .int .i64 (b : Int) :: .int .i64 (e : Int) :: .int .i64 (k : Int) :: u 25 :: u 26 :: u 27 :: u 28 :: u 29 :: u 30 :: u 31 :: u 32 :: u 33 :: u 34 :: u 35 :: u 36 :: u 37 :: u 38 :: u 39 :: u 40 :: u 41 :: u 42 :: u 43 :: u 44 :: u 45 :: u 46 :: u 47 :: u 48 :: u 49 :: u 50 :: u 51 :: u 52 :: u 53 :: u 54 :: u 55 :: u 56 :: u 57 :: u 58 :: u 59 :: u 60 :: u 61 :: u 62 :: u 63 :: u 64 :: u 65 :: u 66 :: u 67 :: u 68 :: u 69 :: u 70 :: u 71 :: u 72 :: u 73 :: u 74 :: u 75 :: u 76 :: u 77 :: u 78 :: u 79 :: u 80 :: u 81 :: u 82 :: u 83 :: u 84 :: u 85 :: u 86 :: u 87 :: u 88 :: u 89 :: u 90 :: u 91 :: u 92 :: u 93 :: u 94 :: u 95 :: u 96 :: u 97 :: u 98 :: u 99 :: u 100 :: u 101 :: u 102 :: u 103 :: u 104 :: u 105 :: u 106 :: u 107 :: u 108 :: u 109 :: u 110 :: u 111 :: u 112 :: u 113 :: u 114 :: u 115 :: u 116 :: u 117 :: u 118 :: u 119 :: u 120 :: u 121 :: u 122 :: u 123 :: u 124 :: u 125 :: u 126 :: u 127 :: u 128 :: u 129 :: u 130 :: u 131 :: u 132 :: u 133 :: u 134 :: u 135 :: u 136 :: u 137 :: u 138 :: u 139 :: u 140 :: u 141 :: u 142 :: u 143 :: u 144 :: u 145 :: u 146 :: u 147 :: u 148 :: u 149 :: u 150 :: u 151 :: u 152 :: u 153 :: u 154 :: u 155 :: u 156 :: u 157 :: u 158 :: u 159 :: u 160 :: u 161 :: u 162 :: u 163 :: u 164 :: u 165 :: u 166 :: u 167 :: u 168 :: u 169 :: u 170 :: u 171 :: u 172 :: u 173 :: u 174 :: u 175 :: u 176 :: u 177 :: u 178 :: u 179 :: u 180 :: u 181 :: u 182 :: u 183 :: u 184 :: u 185 :: u 186 :: u 187 :: u 188 :: u 189 :: u 190 :: u 191 :: u 192 :: u 193 :: u 194 :: u 195 :: []), defers := [] } ws) :
    Code.wp Try.prog (sub [1,1,1,1,1,1,1,1,1,1,1,0] bodyBack) Q { tmps := List.toArray (u 0 :: u 1 :: u 2 :: u 3 :: .int .u32 tu :: u 5 :: u 6 :: u 7 :: u 8 :: u 9 :: u 10 :: .string (bs s) :: u 12 :: u 13 :: u 14 :: u 15 :: u 16 :: u 17 :: u 18 :: u 19 :: u 20 :: u 21 :: .int .i64 0 :: .int .i64 0 :: .int .i64 (k : Int) :: u 25 :: u 26 :: u 27 :: u 28 :: u 29 :: u 30 :: u 31 :: u 32 :: u 33 :: u 34 :: u 35 :: u 36 :: u 37 :: u 38 :: u 39 :: u 40 :: u 41 :: u 42 :: u 43 :: u 44 :: u 45 :: u 46 :: u 47 :: u 48 :: u 49 :: u 50 :: u 51 :: u 52 :: u 53 :: u 54 :: u 55 :: u 56 :: u 57 :: u 58 :: u 59 :: u 60 :: u 61 :: u 62 :: u 63 :: u 64 :: u 65 :: u 66 :: u 67 :: u 68 :: u 69 :: u 70 :: u 71 :: u 72 :: u 73 :: u 74 :: u 75 :: u 76 :: u 77 :: u 78 :: u 79 :: u 80 :: u 81 :: u 82 :: u 83 :: u 84 :: u 85 :: u 86 :: u 87 :: u 88 :: u 89 :: u 90 :: u 91 :: u 92 :: u 93 :: u 94 :: u 95 :: u 96 :: u 97 :: u 98 :: u 99 :: u 100 :: u 101 :: u 102 :: u 103 :: u 104 :: u 105 :: u 106 :: u 107 :: u 108 :: u 109 :: u 110 :: u 111 :: u 112 :: u 113 :: u 114 :: u 115 :: u 116 :: u 117 :: u 118 :: u 119 :: u 120 :: u 121 :: u 122 :: u 123 :: u 124 :: u 125 :: u 126 :: u 127 :: u 128 :: u 129 :: u 130 :: u 131 :: u 132 :: u 133 :: u 134 :: u 135 :: u 136 :: u 137 :: u 138 :: u 139 :: u 140 :: u 141 :: u 142 :: u 143 :: u 144 :: u 145 :: u 146 :: u 147 :: u 148 :: u 149 :: u 150 :: u 151 :: u 152 :: u 153 :: u 154 :: u 155 :: u 156 :: u 157 :: u 158 :: u 159 :: u 160 :: u 161 :: u 162 :: u 163 :: u 164 :: u 165 :: u 166 :: u 167 :: u 168 :: u 169 :: u 170 :: u 171 :: u 172 :: u 173 :: u 174 :: u 175 :: u 176 :: u 177 :: u 178 :: u 179 :: u 180 :: u 181 :: u 182 :: u 183 :: u 184 :: u 185 :: u 186 :: u 187 :: u 188 :: u 189 :: u 190 :: u 191 :: u 192 :: u 193 :: u 194 :: u 195 :: []), defers := [] } W := by
  conv => arg 2; whnf
  have HQ := Kp.mk hQ
  have HO := Kp.mk ho
  have HS := Kp.mk hs
  have HK1 := Kp.mk hk
  have HL := Kp.mk hl
  clear hQ ho hs
  refine wp_block ?_
  refine wp_loop_ghost_k (fun m a' w' => ∃ (n : Nat) (u : Nat → Value), (∃ b e : Nat, m + n = L.length ∧ Fr No W w' ∧ Fnd L n b e k ∧ a' = { tmps := List.toArray (u 0 :: u 1 :: u 2 :: u 3 :: .int .u32 tu :: u 5 :: u 6 :: u 7 :: u 8 :: u 9 :: u 10 :: .string (bs s) :: u 12 :: u 13 :: u 14 :: u 15 :: u 16 :: u 17 :: u 18 :: u 19 :: u 20 :: u 21 :: .int .i64 (b : Int) :: .int .i64 (e : Int) :: .int .i64 (k : Int) :: u 25 :: u 26 :: u 27 :: u 28 :: u 29 :: u 30 :: u 31 :: u 32 :: u 33 :: u 34 :: u 35 :: u 36 :: u 37 :: u 38 :: u 39 :: u 40 :: u 41 :: u 42 :: u 43 :: u 44 :: u 45 :: u 46 :: u 47 :: u 48 :: u 49 :: u 50 :: u 51 :: u 52 :: u 53 :: u 54 :: u 55 :: u 56 :: u 57 :: u 58 :: u 59 :: u 60 :: u 61 :: u 62 :: u 63 :: u 64 :: u 65 :: u 66 :: u 67 :: u 68 :: u 69 :: u 70 :: u 71 :: u 72 :: u 73 :: u 74 :: u 75 :: u 76 :: u 77 :: u 78 :: u 79 :: u 80 :: u 81 :: u 82 :: u 83 :: u 84 :: u 85 :: u 86 :: u 87 :: u 88 :: u 89 :: u 90 :: u 91 :: u 92 :: u 93 :: u 94 :: u 95 :: u 96 :: u 97 :: u 98 :: u 99 :: u 100 :: u 101 :: u 102 :: u 103 :: u 104 :: u 105 :: u 106 :: u 107 :: u 108 :: u 109 :: u 110 :: u 111 :: u 112 :: u 113 :: u 114 :: u 115 :: u 116 :: u 117 :: u 118 :: u 119 :: u 120 :: u 121 :: u 122 :: u 123 :: u 124 :: u 125 :: u 126 :: u 127 :: u 128 :: u 129 :: u 130 :: u 131 :: u 132 :: u 133 :: u 134 :: u 135 :: u 136 :: u 137 :: u 138 :: u 139 :: u 140 :: u 141 :: u 142 :: u 143 :: u 144 :: u 145 :: u 146 :: u 147 :: u 148 :: u 149 :: u 150 :: u 151 :: u 152 :: u 153 :: u 154 :: u 155 :: u 156 :: u 157 :: u 158 :: u 159 :: u 160 :: u 161 :: u 162 :: u 163 :: u 164 :: u 165 :: u 166 :: u 167 :: u 168 :: u 169 :: u 170 :: u 171 :: u 172 :: u 173 :: u 174 :: u 175 :: u 176 :: u 177 :: u 178 :: u 179 :: u 180 :: u 181 :: u 182 :: u 183 :: u 184 :: u 185 :: u 186 :: u 187 :: u 188 :: u 189 :: u 190 :: u 191 :: u 192 :: u 193 :: u 194 :: u 195 :: []), defers := [] })) L.length
    ⟨0, u, 0, 0, by omega, Fr.refl _ _, fnd_0 L k, rfl⟩ ?_
  rintro m a' w' ⟨n, u, b, e, hm, f, fd, rfl⟩ J K hJ hK
  have HJ := Kp.mk hJ
  have HK := Kp.mk hK
  have F := Kp.mk f
  have HM := Kp.mk hm
  have FD := Kp.mk fd
  clear hJ hK hm f fd
  by_cases hlt : e ≤ k
  · have hltz : (e : Int) ≤ (k : Int) := by omega
    have hn := FD.out.more (by rw [← HS.out]; exact hk) hlt
    have hoff := off_le L n hn
    rw [← FD.out.e, ← HS.out] at hoff
    obtain ⟨p, hp⟩ : ∃ p, s[e + 5]? = some p := ⟨_, List.getElem?_eq_getElem (by omega)⟩
    obtain ⟨q, hq⟩ : ∃ q, s[e + 6]? = some q := ⟨_, List.getElem?_eq_getElem (by omega)⟩
    have i5 := idx_any s (e + 5) p ((e : Int) + 5) (by omega) hp
    have i6 := idx_any s (e + 6) q ((e : Int) + 6) (by omega) hq
    have FN : Kp (Fnd L (n + 1) e (e + 11 + p.toNat * 256 + q.toNat) k) := ⟨FD.out.next hn hlt HO.out (by rw [← HS.out]; exact hp) (by rw [← HS.out]; exact hq)⟩
    have hpl : p.toNat < 256 := p.toNat_lt
    have hql : q.toNat < 256 := q.toNat_lt
    have HN := Kp.mk hn
    clear hp hq hn
    go_wp2_with fail
    go_quiet (fail)
    go_wp2_with fail
    refine HK.out _ _ (Handed.intro (m - 1) (by have := HM.out; have := HN.out; omega) (HJ.out _ _ _ ⟨n + 1, ?_⟩))
    exact ex_u3 (by have := HM.out; have := HN.out; omega) (F.out.drewN _) FN.out (by simp only [Int.natCast_add, Int.natCast_mul]; rfl)
  · have hltz : ¬ (e : Int) ≤ (k : Int) := by omega
    go_wp2_with fail
    exact K_u (K := Q .normal) (fun u => HQ.out u _ _ _ _ F.out FD.out (by omega)) rfl
set_option maxHeartbeats 8000000 in
set_option maxRecDepth 100000 in
theorem back_loop2 (W : World) (u : Nat → Value) (tu : Nat) (s : B) (k pb pe g cap base : Nat) (hl : s.length ≤ 65536) (hk : k < s.length) (htu : tu < 4294967296) (hpb : pb ≤ k) (hpe : pe ≤ s.length) (hB : Bts W base 5 g cap s)
    (Q : Exit → Act → World → Prop) (hR : ∀ (u : Nat → Value) ws, Fr (One g) W ws → Q .ret { tmps := List.toArray (u 0 :: u 1 :: u 2 :: u 3 :: .int .u32 (tu : Int) :: u 5 :: u 6 :: u 7 :: u 8 :: u 9 :: .bool true :: .string (bs s) :: u 12 :: u 13 :: u 14 :: u 15 :: u 16 :: u 17 :: u 18 :: u 19 :: u 20 :: u 21 :: .int .i64 (pb : Int) :: .int .i64 (pe : Int) :: .int .i64 (k : Int) :: .slice (some ⟨g, 0, none⟩) s.length cap :: u 26 :: u 27 :: u 28 :: u 29 :: u 30 :: u 31 :: u 32 :: u 33 :: u 34 :: u 35 :: u 36 :: u 37 :: u 38 :: u 39 :: u 40 :: u 41 :: u 42 :: u 43 :: u 44 :: u 45 :: u 46 :: u 47 :: u 48 :: u 49 :: u 50 :: u 51 :: u 52 :: u 53 :: u 54 :: u 55 :: u 56 :: u 57 :: u 58 :: u 59 :: u 60 :: u 61 :: u 62 :: u 63 :: u 64 :: u 65 :: u 66 :: u 67 :: u 68 :: u 69 :: u 70 :: u 71 :: u 72 :: u 73 :: u 74 :: u 75 :: u 76 :: u 77 :: u 78 :: u 79 :: u 80 :: u 81 :: u 82 :: u 83 :: u 84 :: u 85 :: u 86 :: u 87 :: u 88 :: u 89 :: u 90 :: u 91 :: u 92 :: u 93 :: u 94 :: u 95 :: u 96 :: u 97 :: u 98 :: u 99 :: u 100 :: u 101 :: u 102 :: u 103 :: u 104 :: u 105 :: u 106 :: u 107 :: u 108 :: u 109 :: u 110 :: u 111 :: u 112 :: u 113 :: u 114 :: u 115 :: u 116 :: u 117 :: u 118 :: u 119 :: u 120 :: u 121 :: u 122 :: u 123 :: u 124 :: u 125 :: u 126 :: u 127 :: u 128 :: u 129 :: u 130 :: u 131 :: u 132 :: u 133 :: u 134 :: u 135 :: u 136 :: u 137 :: u 138 :: u 139 :: u 140 :: u 141 :: u 142 :: u 143 :: u 144 :: u 145 :: u 146 :: u 147 :: u 148 :: u 149 :: u 150 :: u 151 :: u 152 :: u 153 :: u 154 :: u 155 :: u 156 :: u 157 :: u 158 :: u 159 :: u 160 :: u 161 :: u 162 :: u 163 :: u 164 :: u 165 :: u 166 :: u 167 :: u 168 :: u 169 :: u 170 :: u 171 :: u 172 :: u 173 :: u 174 :: u 175 :: u 176 :: u 177 :: u 178 :: u 179 :: u 180 :: u 181 :: u 182 :: u 183 :: u 184 :: u 185 :: u 186 :: u 187 :: u 188 :: u 189 :: u 190 :: u 191 :: u 192 :: u 193 :: u 194 :: u 195 :: []), defers := [] } ws)
    (hQ : ∀ (u : Nat → Value) (t : B) (b : Bool) ws, Fr (One g) W ws → Bts ws base 5 g cap t → Trn s pb pe k 32 t b → Q .normal { tmps := List.toArray (u 0 :: u 1 :: u 2 :: u 3 :: .int .u32 (tu : Int) :: u 5 :: u 6 :: u 7 :: u 8 :: u 9 :: u 10 :: .string (bs s) :: u 12 :: u 13 :: u 14 :: u 15 :: u 16 :: u 17 :: u 18 :: u 19 :: u 20 :: u 21 :: .int .i64 (pb : Int) :: .int .i64 (pe : Int) :: .int .i64 (k : Int) :: .slice (some ⟨g, 0, none⟩) s.length cap :: .bool b :: u 27 :: u 28 :: u 29 :: u 30 :: u 31 :: u 32 :: u 33 :: u 34 :: u 35 :: u 36 :: u 37 :: u 38 :: u 39 :: u 40 :: u 41 :: u 42 :: u 43 :: u 44 :: u 45 :: u 46 :: u 47 :: u 48 :: u 49 :: u 50 :: u 51 :: u 52 :: u 53 :: u 54 :: u 55 :: u 56 :: u 57 :: u 58 :: u 59 :: u 60 :: u 61 :: u 62 :: u 63 :: u 64 :: u 65 :: u 66 :: u 67 :: u 68 :: u 69 :: u 70 :: u 71 :: u 72 :: u 73 :: u 74 :: u 75 :: u 76 :: u 77 :: u 78 :: u 79 :: u 80 :: u 81 :: u 82 :: u 83 :: u 84 :: u 85 :: u 86 :: u 87 :: u 88 :: u 89 :: u 90 :: u 91 :: u 92 :: u 93 :: u 94 :: u 95 :: u 96 :: u 97 :: u 98 :: u 99 :: u 100 :: u 101 :: u 102 :: u 103 :: u 104 :: u 105 :: u 106 :: u 107 :: u 108 :: u 109 :: u 110 :: u 111 :: u 112 :: u 113 :: u 114 :: u 115 :: u 116 :: u 117 :: u 118 :: u 119 :: u 120 :: u 121 :: u 122 :: u 123 :: u 124 :: u 125 :: u 126 :: u 127 :: u 128 :: u 129 :: u 130 :: u 131 :: u 132 :: u 133 :: u 134 :: u 135 :: u 136 :: u 137 :: u 138 :: u 139 :: u 140 :: u 141 :: u 142 :: u 143 :: u 144 :: u 145 :: u 146 :: u 147 :: u 148 :: u 149 :: u 150 :: u 151 :: u 152 :: u 153 :: u 154 :: u 155 :: u 156 :: u 157 :: u 158 :: u 159 :: u 160 :: u 161 :: u 162 :: u 163 :: u 164 :: u 165 :: u 166 :: u 167 :: u 168 :: u 169 :: u 170 :: u 171 :: u 172 :: u 173 :: u 174 :: u 175 :: u 176 :: u 177 :: u 178 :: u 179 :: u 180 :: u 181 :: u 182 :: u 183 :: u 184 :: u 185 :: u 186 :: u 187 :: u 188 :: u 189 :: u 190 :: u 191 :: u 192 :: u 193 :: u 194 :: u 195 :: []), defers := [] } ws) :
    Code.wp Try.prog (sub [1,1,1,1,1,1,1,1,1,1,1,1,1,1,0,1] bodyBack) Q { tmps := List.toArray (u 0 :: u 1 :: u 2 :: u 3 :: .int .u32 (tu : Int) :: u 5 :: u 6 :: u 7 :: u 8 :: u 9 :: u 10 :: .string (bs s) :: u 12 :: u 13 :: u 14 :: u 15 :: u 16 :: u 17 :: u 18 :: u 19 :: u 20 :: u 21 :: .int .i64 (pb : Int) :: .int .i64 (pe : Int) :: .int .i64 (k : Int) :: .slice (some ⟨g, 0, none⟩) s.length cap :: .bool false :: .int .i64 0 :: u 28 :: u 29 :: u 30 :: u 31 :: u 32 :: u 33 :: u 34 :: u 35 :: u 36 :: u 37 :: u 38 :: u 39 :: u 40 :: u 41 :: u 42 :: u 43 :: u 44 :: u 45 :: u 46 :: u 47 :: u 48 :: u 49 :: u 50 :: u 51 :: u 52 :: u 53 :: u 54 :: u 55 :: u 56 :: u 57 :: u 58 :: u 59 :: u 60 :: u 61 :: u 62 :: u 63 :: u 64 :: u 65 :: u 66 :: u 67 :: u 68 :: u 69 :: u 70 :: u 71 :: u 72 :: u 73 :: u 74 :: u 75 :: u 76 :: u 77 :: u 78 :: u 79 :: u 80 :: u 81 :: u 82 :: u 83 :: u 84 :: u 85 :: u 86 :: u 87 :: u 88 :: u 89 :: u 90 :: u 91 :: u 92 :: u 93 :: u 94 :: u 95 :: u 96 :: u 97 :: u 98 :: u 99 :: u 100 :: u 101 :: u 102 :: u 103 :: u 104 :: u 105 :: u 106 :: u 107 :: u 108 :: u 109 :: u 110 :: u 111 :: u 112 :: u 113 :: u 114 :: u 115 :: u 116 :: u 117 :: u 118 :: u 119 :: u 120 :: u 121 :: u 122 :: u 123 :: u 124 :: u 125 :: u 126 :: u 127 :: u 128 :: u 129 :: u 130 :: u 131 :: u 132 :: u 133 :: u 134 :: u 135 :: u 136 :: u 137 :: u 138 :: u 139 :: u 140 :: u 141 :: u 142 :: u 143 :: u 144 :: u 145 :: u 146 :: u 147 :: u 148 :: u 149 :: u 150 :: u 151 :: u 152 :: u 153 :: u 154 :: u 155 :: u 156 :: u 157 :: u 158 :: u 159 :: u 160 :: u 161 :: u 162 :: u 163 :: u 164 :: u 165 :: u 166 :: u 167 :: u 168 :: u 169 :: u 170 :: u 171 :: u 172 :: u 173 :: u 174 :: u 175 :: u 176 :: u 177 :: u 178 :: u 179 :: u 180 :: u 181 :: u 182 :: u 183 :: u 184 :: u 185 :: u 186 :: u 187 :: u 188 :: u 189 :: u 190 :: u 191 :: u 192 :: u 193 :: u 194 :: u 195 :: []), defers := [] } W := by
  conv => arg 2; whnf
  have HQ := Kp.mk hQ
  have HR := Kp.mk hR
  clear hQ hR
  refine wp_block ?_
  refine wp_loop_ghost_k (fun m a' w' => ∃ (i : Nat) (u : Nat → Value), (∃ (t : B) (b : Bool), m + i = 32 ∧ Fr (One g) W w' ∧ Bts w' base 5 g cap t ∧ Trn s pb pe k i t b ∧ a' = { tmps := List.toArray (u 0 :: u 1 :: u 2 :: u 3 :: .int .u32 (tu : Int) :: u 5 :: u 6 :: u 7 :: u 8 :: u 9 :: u 10 :: .string (bs s) :: u 12 :: u 13 :: u 14 :: u 15 :: u 16 :: u 17 :: u 18 :: u 19 :: u 20 :: u 21 :: .int .i64 (pb : Int) :: .int .i64 (pe : Int) :: .int .i64 (k : Int) :: .slice (some ⟨g, 0, none⟩) s.length cap :: .bool b :: .int .i64 (i : Int) :: u 28 :: u 29 :: u 30 :: u 31 :: u 32 :: u 33 :: u 34 :: u 35 :: u 36 :: u 37 :: u 38 :: u 39 :: u 40 :: u 41 :: u 42 :: u 43 :: u 44 :: u 45 :: u 46 :: u 47 :: u 48 :: u 49 :: u 50 :: u 51 :: u 52 :: u 53 :: u 54 :: u 55 :: u 56 :: u 57 :: u 58 :: u 59 :: u 60 :: u 61 :: u 62 :: u 63 :: u 64 :: u 65 :: u 66 :: u 67 :: u 68 :: u 69 :: u 70 :: u 71 :: u 72 :: u 73 :: u 74 :: u 75 :: u 76 :: u 77 :: u 78 :: u 79 :: u 80 :: u 81 :: u 82 :: u 83 :: u 84 :: u 85 :: u 86 :: u 87 :: u 88 :: u 89 :: u 90 :: u 91 :: u 92 :: u 93 :: u 94 :: u 95 :: u 96 :: u 97 :: u 98 :: u 99 :: u 100 :: u 101 :: u 102 :: u 103 :: u 104 :: u 105 :: u 106 :: u 107 :: u 108 :: u 109 :: u 110 :: u 111 :: u 112 :: u 113 :: u 114 :: u 115 :: u 116 :: u 117 :: u 118 :: u 119 :: u 120 :: u 121 :: u 122 :: u 123 :: u 124 :: u 125 :: u 126 :: u 127 :: u 128 :: u 129 :: u 130 :: u 131 :: u 132 :: u 133 :: u 134 :: u 135 :: u 136 :: u 137 :: u 138 :: u 139 :: u 140 :: u 141 :: u 142 :: u 143 :: u 144 :: u 145 :: u 146 :: u 147 :: u 148 :: u 149 :: u 150 :: u 151 :: u 152 :: u 153 :: u 154 :: u 155 :: u 156 :: u 157 :: u 158 :: u 159 :: u 160 :: u 161 :: u 162 :: u 163 :: u 164 :: u 165 :: u 166 :: u 167 :: u 168 :: u 169 :: u 170 :: u 171 :: u 172 :: u 173 :: u 174 :: u 175 :: u 176 :: u 177 :: u 178 :: u 179 :: u 180 :: u 181 :: u 182 :: u 183 :: u 184 :: u 185 :: u 186 :: u 187 :: u 188 :: u 189 :: u 190 :: u 191 :: u 192 :: u 193 :: u 194 :: u 195 :: []), defers := [] })) 32
    ⟨0, u, s, false, by omega, Fr.refl _ _, hB, trn_0 s pb pe k, rfl⟩ ?_
  clear hB
  rintro m a' w' ⟨i, u, t, b, hm, f, bt, T, rfl⟩ J K hJ hK
  have HJ := Kp.mk hJ
  have HK := Kp.mk hK
  have F := Kp.mk f
  have HM := Kp.mk hm
  have BT := Kp.mk bt
  have TK := Kp.mk T
  clear hJ hK hm f bt T
  by_cases hlt : i < 32
  · have hltz : (i : Int) < 32 := by omega
    by_cases hb : ((tu : Int) / 2 ^ i).tmod 2 = 0
    · go_wp2_with fail
      refine HK.out _ _ (Handed.intro (m - 1) (by have := HM.out; omega) (HJ.out _ _ _ ⟨i + 1, ?_⟩))
      exact ex_u4 (by have := HM.out; omega) F.out BT.out TK.out.skip rfl
    obtain ⟨q, hq⟩ : ∃ q, k + i / 8 = q := ⟨_, rfl⟩
    have hj8 : (8 * (k : Int) + (i : Int)) / 8 = (q : Int) := by omega
    have HQ8 := Kp.mk hq
    have hqk : q < k + 4 := by omega
    have hqk2 : k ≤ q := by omega
    clear hq
    by_cases hr : pe ≤ q
    · have hrz : ((pe : Int) ≤ (q : Int)) := by omega
      go_wp2_with fail
      refine HK.out _ _ (Handed.intro (m - 1) (by have := HM.out; omega) (HJ.out _ _ _ ⟨i + 1, ?_⟩))
      exact ex_u4 (by have := HM.out; omega) F.out BT.out TK.out.skip rfl
    have hrz : ¬ ((pe : Int) ≤ (q : Int)) := by omega
    by_cases h5 : q = pb + 5
    · have h5z : (q : Int) - (pb : Int) = 5 := by omega
      clear h5
      go_wp2_with fail
      exact K_u (K := Q .ret) (fun u => HR.out u _ F.out) rfl
    have h5z : ((q : Int) - (pb : Int) == 5) = false := beq_eq_false_iff_ne.2 (by omega)
    by_cases h6 : q = pb + 6
    · have h6z : (q : Int) - (pb : Int) = 6 := by omega
      clear h6
      go_wp2_with fail
      exact K_u (K := Q .ret) (fun u => HR.out u _ F.out) rfl
    have h6z : ((q : Int) - (pb : Int) == 6) = false := beq_eq_false_iff_ne.2 (by omega)
    have hlen := TK.out.len
    have hqt : q < t.length := by omega
    obtain ⟨c, hc⟩ : ∃ c, t[q]? = some c := ⟨_, List.getElem?_eq_getElem hqt⟩
    have l1 := BT.out.cell q c hc
    have hfz : w'.frozen? ⟨g, q, none⟩ = false := BT.out.free q (by obtain ⟨_, _, _, _, hl, _⟩ := BT.out.ex; omega)
    have hql : (q : Int) < (s.length : Int) := by omega
    have HX : Kp (bits BinOp.xor IntKind.u8 (c.toNat : Int) (2 ^ (i % 8) % 256) = ((c ^^^ UInt8.ofNat (2 ^ (i % 8))).toNat : Int)) := ⟨by
      have hb := bit_toNat (Nat.mod_lt i (by decide : 0 < 8))
      have h2 : 2 ^ (i % 8) < 2 ^ 8 := Nat.pow_lt_pow_right (by decide) (Nat.mod_lt i (by decide))
      have h3 : ((2 : Int) ^ (i % 8) % 256) = ((2 ^ (i % 8) : Nat) : Int) := by
        rw [Int.natCast_pow]
        refine Int.emod_eq_of_lt (Int.pow_nonneg (by decide)) ?_
        have : ((2 ^ (i % 8) : Nat) : Int) < 256 := by omega
        rw [Int.natCast_pow] at this
        exact this
      rw [h3, u8_xor_nat _ _ c.toNat_lt (by omega), UInt8.toNat_xor, hb]⟩
    have TN : Kp (Trn s pb pe k (i + 1) (t.set q (c ^^^ UInt8.ofNat (2 ^ (i % 8)))) true) := ⟨by
      have h8 := HQ8.out
      subst h8
      exact TK.out.turn hlt (by omega) hpe h5 h6 hc⟩
    have BN := BT.out.set q (c ^^^ UInt8.ofNat (2 ^ (i % 8))) hqt
    rw [← HX.out] at BN
    have BN := Kp.mk BN
    clear hc h5 h6 hlen hqt
    go_wp2_with fail
    refine HK.out _ _ (Handed.intro (m - 1) (by have := HM.out; omega) (HJ.out _ _ _ ⟨i + 1, ?_⟩))
    exact ex_u4 (by have := HM.out; omega) (F.out.trans (Fr.setCell _ _ _ _) (fun i hi => .inl hi)) BN.out TN.out rfl
  · have hltz : ¬ (i : Int) < 32 := by omega
    go_wp2_with fail
    exact K_u (K := Q .normal) (fun u => HQ.out u _ _ _ F.out BT.out ((show i = 32 by have := HM.out; omega) ▸ TK.out)) rfl
end Go.Proofs.Ytioohhekamjljaa.Wk

/- The law WireBack: it answers true. No conditions beside those written out. -/
set_option linter.unusedSimpArgs false
set_option linter.unusedVariables false
namespace Go.Proofs.Ytioohhekamjljaa.Wk
open Go Go.RowKit Go.Proofs.YtioohhekamjljaaW.PrintWords Go.Proofs.YtioohhekamjljaaW.PrintLast Go.Proofs.Ytioohhekamjljaa.Ev Go.Proofs.Ytioohhekamjljaa.Reg Go.Proofs.Ytioohhekamjljaa.Sha Go.Proofs.Ytioohhekamjljaa.Sb Go.Proofs.Ytioohhekamjljaa.Crc Go.Proofs.Ytioohhekamjljaa.Wi

theorem own_cap {w : World} {base n cp : Nat} {size : Nat} {e : TypeId} {A : Option Addr} {cs : List Value} (h : w.ownsRow base e size (.slice A n cp) n cs) : n ≤ cp := by
  rcases h.2 with ⟨hv, hz⟩ | ⟨b, c, cur, hv, h1, h2, h3, h4, h5, h6⟩
  · omega
  · injection hv with h7 h8 h9
    omega
/-- Decode's contract at a text whose answer is known. -/
theorem dec_at (t : B) (ht : t.length ≤ 1073741824) {H : Hd} {L : List Cm} {E : Int} (h : decV t = (H, L, E)) (w : World) : Calls Try.prog 12 #[.string (bs t)] w fun e w' => ∃ A c, e = .returned (.tuple #[hdV H, .slice A L.length c, .int .i64 E]) ∧ CmS w' A L ∧ Fr No w w' := by
  have := decode_any t ht w
  rw [h] at this
  exact this.mono fun e w' ⟨A, c, h1, h2, h3⟩ => ⟨A, c, h1, cms_own h2 rfl, h3⟩
theorem tmod_nat {c : Int} {n : Nat} (h0 : 0 ≤ c) (hn : 0 < n) : ∃ k : Nat, Int.tmod c (n : Int) = (k : Int) ∧ k < n := by
  have h1 := Int.emod_nonneg c (b := (n : Int)) (by omega)
  have h2 := Int.emod_lt_of_pos c (b := (n : Int)) (by omega)
  exact ⟨(c % (n : Int)).toNat, by rw [Int.tmod_eq_emod_of_nonneg (by omega)]; omega, by omega⟩
set_option maxHeartbeats 16000000 in
set_option maxRecDepth 100000 in
theorem back_any (h : Hd) (l : List Cm) (A : Option Addr) (cap : Nat) (cut at_ : Int) (turn : Nat) (W : World) (hL : CmS W A l) (hcap : l.length ≤ cap) (hl : l.length ≤ 9223372036854775807) (htu : turn < 4294967296) :
    Calls Try.prog 5 #[hdV h, .slice A l.length cap, .int .i64 cut, .int .i64 at_, .int .u32 (turn : Int)] W fun e w' => e = .returned (.bool true) ∧ Fr No W w' := by
  have HL := Kp.mk hL
  obtain ⟨z, hz, hfew⟩ := few_is l hl
  have CF := Kp.mk hfew
  have hps : (bs h.parent).size = h.parent.length := bs_size _
  have hcs : (bs h.child).size = h.child.length := bs_size _
  clear hfew hL
  by_cases hp : 100 < h.parent.length
  · have hpz : ((100 : Int) < (h.parent.length : Int)) := by omega
    go_enter Try.func5, Try.ntmps5
    go_wp2_with (first
      | ((with_reducible refine gate_dst (N := 5) rfl ?_); go_must (refine ev_box rfl 23 _ rfl _ rfl (hdL h) rfl ?_); intro g5 w0 hg5 f0 b5; have F := f0)
      | (go_at_call 7; refine (awake_any _).mono ?_; rintro e w1 ⟨rfl, fa⟩; have b5 := b5.no fa; have F := F.no fa; have c0 := b5.at_ 0 rfl; have c1 := b5.at_ 1 rfl))
    go_ret
    exact ⟨rfl, F⟩
  by_cases hc : 100 < h.child.length
  · have hpz : ¬ ((100 : Int) < (h.parent.length : Int)) := by omega
    have hcz : ((100 : Int) < (h.child.length : Int)) := by omega
    go_enter Try.func5, Try.ntmps5
    go_wp2_with (first
      | ((with_reducible refine gate_dst (N := 5) rfl ?_); go_must (refine ev_box rfl 23 _ rfl _ rfl (hdL h) rfl ?_); intro g5 w0 hg5 f0 b5; have F := f0)
      | (go_at_call 7; refine (awake_any _).mono ?_; rintro e w1 ⟨rfl, fa⟩; have b5 := b5.no fa; have F := F.no fa; have c0 := b5.at_ 0 rfl; have c1 := b5.at_ 1 rfl))
    go_ret
    exact ⟨rfl, F⟩
  have hpz : ¬ ((100 : Int) < (h.parent.length : Int)) := by omega
  have hcz : ¬ ((100 : Int) < (h.child.length : Int)) := by omega
  cases z with
  | false =>
    clear hz
    go_enter Try.func5, Try.ntmps5
    go_wp2_with (first
      | ((with_reducible refine gate_dst (N := 5) rfl ?_); go_must (refine ev_box rfl 23 _ rfl _ rfl (hdL h) rfl ?_); intro g5 w0 hg5 f0 b5; have F := f0)
      | (go_at_call 7; refine (awake_any _).mono ?_; rintro e w1 ⟨rfl, fa⟩; have b5 := b5.no fa; have F := F.no fa; have c0 := b5.at_ 0 rfl; have c1 := b5.at_ 1 rfl)
      | (go_at_call 8; refine (CF.out _ _ _ (HL.out.no F) hcap).mono ?_; rintro e w2 ⟨rfl, ff⟩; have b5 := b5.no ff; have F := F.no ff))
    go_ret
    exact ⟨rfl, F⟩
  | true =>
    have hl150 := hz rfl
    clear hz
    by_cases hk0 : cut < 0
    · go_enter Try.func5, Try.ntmps5
      go_wp2_with (first
        | ((with_reducible refine gate_dst (N := 5) rfl ?_); go_must (refine ev_box rfl 23 _ rfl _ rfl (hdL h) rfl ?_); intro g5 w0 hg5 f0 b5; have F := f0)
        | (go_at_call 7; refine (awake_any _).mono ?_; rintro e w1 ⟨rfl, fa⟩; have b5 := b5.no fa; have F := F.no fa; have c0 := b5.at_ 0 rfl; have c1 := b5.at_ 1 rfl)
        | (go_at_call 8; refine (CF.out _ _ _ (HL.out.no F) hcap).mono ?_; rintro e w2 ⟨rfl, ff⟩; have b5 := b5.no ff; have F := F.no ff))
      go_ret
      exact ⟨rfl, F⟩
    by_cases hk1 : at_ < 0
    · go_enter Try.func5, Try.ntmps5
      go_wp2_with (first
        | ((with_reducible refine gate_dst (N := 5) rfl ?_); go_must (refine ev_box rfl 23 _ rfl _ rfl (hdL h) rfl ?_); intro g5 w0 hg5 f0 b5; have F := f0)
        | (go_at_call 7; refine (awake_any _).mono ?_; rintro e w1 ⟨rfl, fa⟩; have b5 := b5.no fa; have F := F.no fa; have c0 := b5.at_ 0 rfl; have c1 := b5.at_ 1 rfl)
        | (go_at_call 8; refine (CF.out _ _ _ (HL.out.no F) hcap).mono ?_; rintro e w2 ⟨rfl, ff⟩; have b5 := b5.no ff; have F := F.no ff))
      go_ret
      exact ⟨rfl, F⟩
    have HEN := encR_is h l (by omega) (by omega) (by omega)
    by_cases hbad : (encR h l).2 ≠ 0
    · have hE1 : (encR h l).1 = [] := by
        rw [HEN] at hbad ⊢
        by_cases h1 : (okH h && l.all rightC) = true
        · rw [if_pos h1] at hbad ⊢
          by_cases h2 : (streamP dg h l).length ≤ 65536
          · rw [if_pos h2] at hbad; exact absurd rfl hbad
          · rw [if_neg h2]
        · rw [if_neg h1]
      obtain ⟨E, hE⟩ : ∃ E, encR h l = E := ⟨_, rfl⟩
      have CE : Kp (∀ w', CmS w' A l → Calls Try.prog 9 #[hdV h, .slice A l.length cap] w' fun e w'' => e = .returned (.tuple #[.string (bs E.1), .int .i64 E.2]) ∧ Fr No w' w'') := ⟨fun w' hc => by
        have := encode_any h A cap l w' hc (by omega) (by omega) (by omega)
        rw [hE] at this
        exact this⟩
      rw [hE] at hbad hE1
      obtain ⟨E1, E2⟩ := E
      obtain rfl : E1 = [] := hE1
      have hb2 : ¬ E2 = 0 := hbad
      clear HEN hbad hE hp hc
      go_enter Try.func5, Try.ntmps5
      go_wp2_with (first
        | ((with_reducible refine gate_dst (N := 5) rfl ?_); go_must (refine ev_box rfl 23 _ rfl _ rfl (hdL h) rfl ?_); intro g5 w0 hg5 f0 b5; have F := f0)
        | (go_at_call 7; refine (awake_any _).mono ?_; rintro e w1 ⟨rfl, fa⟩; have b5 := b5.no fa; have F := F.no fa; have c0 := b5.at_ 0 rfl; have c1 := b5.at_ 1 rfl)
        | (go_at_call 8; refine (CF.out _ _ _ (HL.out.no F) hcap).mono ?_; rintro e w2 ⟨rfl, ff⟩; have b5 := b5.no ff; have F := F.no ff)
        | ((with_reducible refine gate_dst (N := 58) rfl ?_); go_must (refine ev_load_row rfl 23 _ rfl g5 rfl 23 _ b5 _ Try.underlying23 rfl sizeHead ?_))
        | (go_at_call 9; refine (CE.out _ (HL.out.no F)).mono ?_; rintro e we ⟨rfl, fe⟩; have b5 := b5.no fe; have F := F.no fe))
      go_ret
      exact ⟨rfl, F⟩
    have he2 : (encR h l).2 = 0 := Classical.not_not.1 hbad
    have hok : (okH h && l.all rightC) = true ∧ (streamP dg h l).length ≤ 65536 := by
      rw [HEN] at he2
      by_cases h1 : (okH h && l.all rightC) = true
      · rw [if_pos h1] at he2
        by_cases h2 : (streamP dg h l).length ≤ 65536
        · exact ⟨h1, h2⟩
        · rw [if_neg h2] at he2; cases he2
      · rw [if_neg h1] at he2; cases he2
    obtain ⟨hok1, hok2⟩ := hok
    rw [if_pos hok1, if_pos hok2] at HEN
    rw [Bool.and_eq_true] at hok1
    have KS : OkS dg h l := ⟨hok1.1, List.all_eq_true.1 hok1.2, by omega, by rw [dg_len]; decide⟩
    have hs0 : 0 < (streamP dg h l).length := by rw [streamP_eq, List.length_append, rec_len]; omega
    obtain ⟨kc, hkc, hkc1⟩ := tmod_nat (c := cut) (by omega) hs0
    obtain ⟨k, hka, hk1'⟩ := tmod_nat (c := at_) (by omega) hs0
    have D1 := dec_stream KS hok2
    have D2 := dec_cut KS hok2 (List.take_append_drop kc (streamP dg h l)) (by
      intro e
      have := congrArg List.length e
      rw [List.length_drop] at this
      simp at this
      omega)
    obtain ⟨eb, heb, D3⟩ := dec_behind KS hok2
    have DT : Kp (∀ (n pb pe i : Nat), k < pe → Fnd (allR dg h l) n pb pe k → ∀ (t : B) (b : Bool), Trn (streamP dg h l) pb pe k i t b → ∃ V, decV t = V ∧ (b = false → V = (h, l, 0)) ∧ (b = true → V = (zeroH, [], 8))) := ⟨fun n pb pe i hk F t b T => dec_trn KS hok2 hk F T⟩
    have HOL : Kp (∀ x ∈ allR dg h l, x.pay.length ≤ 8192) := ⟨by
      have hr := all_rise KS
      have : ∀ (L : List Rc) (n : Nat), Rise n L → ∀ x ∈ L, x.pay.length ≤ 8192 := by
        intro L
        induction L with
        | nil => intro n _ x hx; cases hx
        | cons y L ih =>
          intro n h x hx
          cases h with
          | cons hy hn h =>
            rcases List.mem_cons.1 hx with rfl | hx
            · exact hy.p1
            · exact ih _ h x hx
      exact this _ _ hr⟩
    have HSL : Kp (streamP dg h l = flatR (allR dg h l)) := ⟨rfl⟩
    obtain ⟨L, hLL⟩ : ∃ L, allR dg h l = L := ⟨_, rfl⟩
    rw [hLL] at DT HOL HSL
    obtain ⟨s, hs⟩ : ∃ s, streamP dg h l = s := ⟨_, rfl⟩
    rw [hs] at D1 D2 D3 DT HSL HEN hkc hka hkc1 hk1' hok2 hs0
    have hsz : ¬ (s.length : Int) = 0 := by omega
    have hss : (bs s).size = s.length := bs_size _
    have hsm : s.length ≤ maxLen := by simp only [maxLen]; omega
    have hl2 : l.length ≤ 1000000 := by omega
    have S1 := sl_to s kc kc rfl (by omega)
    have HAP : Kp (bs s ++ { data := #[120] } = bs (s ++ [120])) := ⟨bs_append s [120]⟩
    have CE : Kp (∀ w', CmS w' A l → Calls Try.prog 9 #[hdV h, .slice A l.length cap] w' fun e w'' => e = .returned (.tuple #[.string (bs s), .int .i64 0]) ∧ Fr No w' w'') := ⟨fun w' hc => by
      have := encode_any h A cap l w' hc (by omega) (by omega) (by omega)
      rw [HEN] at this
      exact this⟩
    have CD1 : Kp (∀ w, Calls Try.prog 12 #[.string (bs s)] w fun e w' => ∃ A c, e = .returned (.tuple #[hdV h, .slice A l.length c, .int .i64 0]) ∧ CmS w' A l ∧ Fr No w w') := ⟨dec_at s (by omega) D1⟩
    have CD2 : Kp (∀ w, Calls Try.prog 12 #[.string (bs (s.take kc))] w fun e w' => ∃ A c, e = .returned (.tuple #[hdV zeroH, .slice A 0 c, .int .i64 2]) ∧ Fr No w w') := ⟨fun w => (dec_at (s.take kc) (by rw [List.length_take]; omega) D2 w).mono fun e w' ⟨A, c, h1, _, h2⟩ => ⟨A, c, h1, h2⟩⟩
    have CD3 : Kp (∀ w, Calls Try.prog 12 #[.string (bs (s ++ [120]))] w fun e w' => ∃ A c, e = .returned (.tuple #[hdV zeroH, .slice A 0 c, .int .i64 eb]) ∧ Fr No w w') := ⟨fun w => (dec_at (s ++ [120]) (by rw [List.length_append, List.length_singleton]; omega) D3 w).mono fun e w' ⟨A, c, h1, _, h2⟩ => ⟨A, c, h1, h2⟩⟩
    have heb2 : (eb == 0) = false := beq_eq_false_iff_ne.2 heb
    have HK1 := Kp.mk hk1'
    have HEB := Kp.mk heb
    have HS65 := Kp.mk hok2
    clear HEN he2 hbad hp hc hs KS hok1 hs0 D1 D2 D3 hLL heb hkc1
    go_enter Try.func5, Try.ntmps5
    go_upto_block 0 with (first
      | ((with_reducible refine gate_dst (N := 5) rfl ?_); go_must (refine ev_box rfl 23 _ rfl _ rfl (hdL h) rfl ?_); intro g5 w0 hg5 f0 b5; have F := f0)
      | (go_at_call 7; refine (awake_any _).mono ?_; rintro e w1 ⟨rfl, fa⟩; have b5 := b5.no fa; have F := F.no fa; have c0 := b5.at_ 0 rfl; have c1 := b5.at_ 1 rfl)
      | (go_at_call 8; refine (CF.out _ _ _ (HL.out.no F) hcap).mono ?_; rintro e w2 ⟨rfl, ff⟩; have b5 := b5.no ff; have F := F.no ff)
      | ((with_reducible refine gate_dst (N := 58) rfl ?_); go_must (refine ev_load_row rfl 23 _ rfl g5 rfl 23 _ b5 _ Try.underlying23 rfl sizeHead ?_))
      | (go_at_call 9; refine (CE.out _ (HL.out.no F)).mono ?_; rintro e we ⟨rfl, fe⟩; have b5 := b5.no fe; have F := F.no fe)
      | (go_at_call 12; refine (CD1.out _).mono ?_; rintro e wd1 ⟨A1, k1, rfl, M1, fd⟩; have F0 := Fr.refl No wd1; have b5 := b5.no fd; have F := F.no fd; clear CD1)
      | (go_at_call 12; refine (CD2.out _).mono ?_; rintro e wd2 ⟨A2, k2, rfl, fd⟩; have F0 := Fr.refl No wd2; have M1 := M1.no fd; have b5 := b5.no fd; have b13 := b13.no fd; have F := F.no fd; clear CD2)
      | (go_at_call 12; rw [HAP.out]; refine (CD3.out _).mono ?_; rintro e wd3 ⟨A3, k3, rfl, fd⟩; have F0 := Fr.refl No wd3; have M1 := M1.no fd; have b5 := b5.no fd; have b13 := b13.no fd; have F := F.no fd; clear CD3)
      | ((with_reducible refine gate_dst (N := 13) rfl ?_); go_must (refine ev_alloc rfl 23 rfl _ (hdL zeroH) zeroHead rfl ?_); intro g13 w13 hg13 f13 b13; have F0 := F0.no f13)
      | ((with_reducible refine gate_store (t := 23) (p := 13) rfl ?_); go_must (refine ev_store_row rfl 23 _ _ rfl g13 (hdL h).toArray rfl rfl 23 _ b13 sizeHead rfl (hdL_one _) ?_); intro w14 f14 b13; have F0 := F0.one f14 (.inr hg13); have b5 := b5.no F0; have M1 := M1.no F0; have F := F.no F0; clear F0)
      | ((with_reducible refine gate_dst (N := 16) rfl ?_); go_must (refine ev_alloc rfl 23 rfl _ (hdL zeroH) zeroHead rfl ?_); intro g16 w16 hg16 f16 b16; have F0 := F0.no f16)
      | ((with_reducible refine gate_store (t := 23) (p := 16) rfl ?_); go_must (refine ev_store_row rfl 23 _ _ rfl g16 (hdL zeroH).toArray rfl rfl 23 _ b16 sizeHead rfl (hdL_one _) ?_); intro w17 f17 b16; have F0 := F0.one f17 (.inr hg16); have b5 := b5.no F0; have b13 := b13.no F0; have M1 := M1.no F0; have F := F.no F0; clear F0)
      | ((with_reducible refine gate_dst (N := 19) rfl ?_); go_must (refine ev_alloc rfl 23 rfl _ (hdL zeroH) zeroHead rfl ?_); intro g19 w19 hg19 f19 b19; have F0 := F0.no f19)
      | ((with_reducible refine gate_store (t := 23) (p := 19) rfl ?_); go_must (refine ev_store_row rfl 23 _ _ rfl g19 (hdL zeroH).toArray rfl rfl 23 _ b19 sizeHead rfl (hdL_one _) ?_); intro w20 f20 b19; have F0 := F0.one f20 (.inr hg19); have b5 := b5.no F0; have b13 := b13.no F0; have M1 := M1.no F0; have F := F.no F0; clear F0)
      | ((with_reducible refine gate_dst (N := 91) rfl ?_); go_must (refine ev_load_row rfl 23 _ rfl g13 rfl 23 _ b13 _ Try.underlying23 rfl sizeHead ?_))
      | ((with_reducible refine gate_dst (N := 92) rfl ?_); go_must (refine ev_load_row rfl 23 _ rfl g5 rfl 23 _ b5 _ Try.underlying23 rfl sizeHead ?_))
      | (go_at_call 11; have MO := MO; refine (of_any l A cap _ (HL.out.no F) hl2).mono ?_; rintro e wo2 ⟨Bp, kp, rfl, rowp, fo⟩; have MO := MO.no fo; have MP := cms_own rowp rfl; have hkp := own_cap rowp; have F := F.no fo)
      | (go_at_call 11; refine (of_any l A1 k1 _ M1 hl2).mono ?_; rintro e wo1 ⟨Bo, ko, rfl, rowo, fo⟩; have MO := cms_own rowo rfl; have hko := own_cap rowo; have F := F.no fo; clear M1)
      | (go_at_call 14; refine (same_any l l Bo Bp ko kp _ MO MP (by omega) (by omega) hko hkp).mono ?_; rintro e ws ⟨rfl, fs⟩; have F := F.no fs; rw [decide_eq_true rfl]))
    refine wp_u (fun u => back_loop1 _ u (turn : Int) s L k HSL.out HS65.out HK1.out HOL.out _ ?_) rfl
    intro u n pb pe wl fl fd hke
    simp only [Exit.then]
    refine ‹∀ (a : Act) (w : World), Code.wp Try.prog _ _ a w → _› _ _ ?_
    have F := F.no fl
    have hpe := fd.le_all
    rw [← HSL.out] at hpe
    have hpb : pb ≤ k := by obtain ⟨_, _, _, _, _, h, _⟩ := fd.got hke; exact h
    have FDK : Kp (Fnd L n pb pe k ∧ k < pe ∧ pe ≤ s.length ∧ pb ≤ k) := ⟨fd, hke, hpe, hpb⟩
    clear fd hke hpe hpb
    go_upto_block 2 with (first | ((with_reducible refine gate_dst (N := 138) rfl ?_); refine ev_bts rfl 9 67 _ rfl s rfl 5 Try.underlying9 Try.underlying67 Try.underlying5 hsm ?_; intro g25 c25 w25 f25 b25; have hg25 := b25.lo; have hgW := Nat.le_trans F.size hg25; have F := F.no f25))
    refine wp_u (fun u => back_loop2 _ u turn s k pb pe g25 c25 _ HS65.out HK1.out htu FDK.out.2.2.2 FDK.out.2.2.1 b25 _ ?_ ?_) rfl
    · intro u ws fl2
      simp only [Exit.then]
      go_ret
      exact ⟨rfl, F.one fl2 (.inr hgW)⟩
    · intro u t b ws fl2 bt T
      have F := F.one fl2 (.inr hgW)
      have hlt := T.len
      obtain ⟨⟨HV, LV, EV⟩, hV, hf, ht⟩ := DT.out n pb pe 32 FDK.out.2.1 FDK.out.1 t b T
      have CD4 : Kp (∀ w, Calls Try.prog 12 #[.string (bs t)] w fun e w' => ∃ A c, e = .returned (.tuple #[hdV HV, .slice A LV.length c, .int .i64 EV]) ∧ CmS w' A LV ∧ Fr No w w') := ⟨dec_at t (by have := HS65.out; omega) hV⟩
      simp only [Exit.then]
      refine ‹∀ (a : Act) (w : World), Code.wp Try.prog _ _ a w → _› _ _ ?_
      cases b with
      | false =>
        obtain rfl : EV = 0 := congrArg (fun z => z.2.2) (hf rfl)
        clear hf ht hV T
        go_wp2_with (first
          | ((with_reducible refine gate_dst (N := 187) rfl ?_); refine ev_btstr rfl 67 9 5 _ rfl Try.underlying67 Try.underlying5 Try.underlying9 _ _ _ _ _ t hlt.symm rfl bt ?_)
          | (go_at_call 12; refine (CD4.out _).mono ?_; rintro e wd4 ⟨A4, k4, rfl, _, fd⟩; have F := F.no fd)
          | ((with_reducible refine gate_dst (N := 29) rfl ?_); go_must (refine ev_alloc rfl 23 rfl _ (hdL zeroH) zeroHead rfl ?_); intro g29 w29 hg29 f29 b29; have hg29 := Nat.le_trans F.size hg29; have F := F.no f29)
          | ((with_reducible refine gate_store (t := 23) (p := 29) rfl ?_); go_must (refine ev_store_row rfl 23 _ _ rfl g29 (hdL HV).toArray rfl rfl 23 _ b29 sizeHead rfl (hdL_one _) ?_); intro w30 f30 b29; have F := F.one f30 (.inr hg29)))
        go_ret
        exact ⟨rfl, F⟩
      | true =>
        obtain rfl : EV = 8 := congrArg (fun z => z.2.2) (ht rfl)
        clear hf ht hV T
        go_wp2_with (first
          | ((with_reducible refine gate_dst (N := 187) rfl ?_); refine ev_btstr rfl 67 9 5 _ rfl Try.underlying67 Try.underlying5 Try.underlying9 _ _ _ _ _ t hlt.symm rfl bt ?_)
          | (go_at_call 12; refine (CD4.out _).mono ?_; rintro e wd4 ⟨A4, k4, rfl, _, fd⟩; have F := F.no fd)
          | ((with_reducible refine gate_dst (N := 29) rfl ?_); go_must (refine ev_alloc rfl 23 rfl _ (hdL zeroH) zeroHead rfl ?_); intro g29 w29 hg29 f29 b29; have hg29 := Nat.le_trans F.size hg29; have F := F.no f29)
          | ((with_reducible refine gate_store (t := 23) (p := 29) rfl ?_); go_must (refine ev_store_row rfl 23 _ _ rfl g29 (hdL HV).toArray rfl rfl 23 _ b29 sizeHead rfl (hdL_one _) ?_); intro w30 f30 b29; have F := F.one f30 (.inr hg29)))
        go_ret
        exact ⟨rfl, F⟩
end Go.Proofs.Ytioohhekamjljaa.Wk

/- A stream's head and commands as arguments, opened. No conditions beside those written out. -/
set_option linter.unusedSimpArgs false
set_option linter.unusedVariables false
namespace Go.Proofs.Ytioohhekamjljaa.Wk
open Go Go.Joins Go.ChangeShapes Go.WideShapes Go.RowKit Go.Deep Go.Proofs.Ytioohhekamjljaa.Ev Go.Proofs.Ytioohhekamjljaa.Wi Go.Proofs.Ytioohhekamjljaa.Crc Go.Proofs.Ytioohhekamjljaa.Sb

section
variable {H : Type} {enc : TypeId × Value → H} {P : Program} {w : World} {base : Nat} {spare : Nat → Bool} {held : Bool}
theorem open_slice_fields {t e : TypeId} {fs : Array Field} {fuel : Nat} {cs : List Value} {x : DataW H × List MemPlace} (ht : P.underlying t = some (.slice e)) (he : P.underlying e = some (.struct fs))
    (hone : oneCellFields P fs = true) (hC : P.cellsOf e = fs.size) (h : DataW.trod enc P w base spare held fuel t cs = some x) :
    (cs = [.slice none 0 0] ∧ x = (.nil, [])) ∨
    ∃ (a : Addr) (len cap m : Nat) (D : Nat → DataW H) (Pl : Nat → List MemPlace), cs = [.slice (some a) len cap] ∧ base ≤ a.block ∧ len ≤ cap ∧ cap ≤ maxLen ∧ m = (if spare a.block then cap else len) ∧
      x = (.slice ((List.range len).map D) ((List.range (m - len)).map fun j => D (len + j)), MemPlace.row a (m * fs.size) ++ (List.range m).flatMap Pl) ∧
      ∀ i, i < m → ∃ (ys : List (DataW H × List MemPlace)) (n : Nat), D i = .agg (ys.map (·.1)) ∧ Pl i = ys.flatMap (·.2) ∧ ys.length = fs.size ∧
        ∀ (j : Nat) (f : Field), fs[j]? = some f → ∃ (v : Value) (y : DataW H × List MemPlace), w.cell? (a.add (i * fs.size + j)) = some v ∧ ys[j]? = some y ∧ DataW.trod enc P w base spare held n f.type [v] = some y := by
  rcases open_slice ht h with h0 | ⟨a, len, cap, m, n, D, Pl, hcs, hb, hl, hm, hmm, hx, hi⟩
  · exact .inl h0
  · refine .inr ⟨a, len, cap, m, D, Pl, hcs, hb, hl, hm, hmm, by rw [hC] at hx; exact hx, fun i him => ?_⟩
    obtain ⟨cs', hc, ht'⟩ := hi i him
    rw [hC] at hc
    obtain ⟨ys, n', hn', hy, hlen, hyl, hf⟩ := DataW.trod_struct he ht'
    obtain ⟨_, hcl, hat⟩ := World.cells?_some hc
    simp only [Prod.mk.injEq] at hy
    refine ⟨ys, n', hy.1, hy.2, hyl, fun j f hj => ?_⟩
    obtain ⟨ho, hk⟩ := hone_of hone j f hj
    have hjl : j < fs.size := (Array.getElem?_eq_some_iff.1 hj).1
    have hcell := hat j hjl
    have hv : cs'[j]? = some (cs'[j]'(by omega)) := List.getElem?_eq_getElem (by omega)
    have h1 := hf j f hj
    rw [ho, hk] at h1
    have hone' : (cs'.drop j).take 1 = [cs'[j]'(by omega)] := by
      rw [List.drop_eq_getElem_cons (by omega)]
      rfl
    rw [hone'] at h1
    have hys : ys[j]? = some (ys[j]'(by omega)) := List.getElem?_eq_getElem (by omega)
    refine ⟨_, _, ?_, hys, h1.trans hys⟩
    rw [← Go.Deep.add_add, hcell, hv]
end


section
variable {H : Type} {enc : TypeId × Value → H} {P : Program} {w : World} {base : Nat} {spare : Nat → Bool} {held : Bool}
theorem open_agg3 {r : Reach} {b0 : Nat} {t : TypeId} {f0 f1 f2 : Field} {v : Value} {d : DataW H} {p : List MemPlace} (hs : P.underlying t = some (.struct #[f0, f1, f2])) (hone : oneCellFields P #[f0, f1, f2] = true) (hC : P.cellsOf t = 3)
    (hv : Value.okWide P w r b0 t v) (h : DataW.Trod enc P w base spare held t v d p) :
    ∃ (v0 v1 v2 : Value) (y0 y1 y2 : DataW H × List MemPlace) (n : Nat), v = .agg #[v0, v1, v2] ∧ d = .agg [y0.1, y1.1, y2.1] ∧ p = y0.2 ++ (y1.2 ++ y2.2) ∧
      DataW.trod enc P w base spare held n f0.type [v0] = some y0 ∧ DataW.trod enc P w base spare held n f1.type [v1] = some y1 ∧ DataW.trod enc P w base spare held n f2.type [v2] = some y2 := by
  obtain ⟨cs, rfl, hsz⟩ := okWide_struct hs hv
  obtain ⟨l⟩ := cs
  match l, hsz.trans hC with
  | [c0, c1, c2], _ =>
    obtain ⟨fuel, hf⟩ := h
    obtain ⟨xs, n, _, hx, _, hlen, hg⟩ := DataW.trod_struct hs hf
    obtain ⟨o0, k0⟩ := hone_of hone 0 f0 rfl
    obtain ⟨o1, k1⟩ := hone_of hone 1 f1 rfl
    obtain ⟨o2, k2⟩ := hone_of hone 2 f2 rfl
    match xs, hlen with
    | [y0, y1, y2], _ =>
      simp only [Prod.mk.injEq] at hx
      exact ⟨c0, c1, c2, y0, y1, y2, n, rfl, by simpa using hx.1, by simpa using hx.2, by simpa [Value.cells, o0, k0] using hg 0 f0 rfl, by simpa [Value.cells, o1, k1] using hg 1 f1 rfl, by simpa [Value.cells, o2, k2] using hg 2 f2 rfl⟩
end

section
variable {H : Type} {enc : TypeId × Value → H} {w : World} {base : Nat} {spare : Nat → Bool} {held : Bool}
set_option maxRecDepth 100000 in
theorem open_head {r : Reach} {b0 : Nat} {v : Value} {d : DataW H} {p : List MemPlace} (hv : Value.okWide Try.prog w r b0 23 v) (h : DataW.Trod enc Try.prog w base spare held 23 v d p) : ∃ h : Hd, v = hdV h := by
  obtain ⟨v0, v1, v2, y0, y1, y2, n, rfl, _, _, h0, h1, h2⟩ := open_agg3 Try.underlying23 (by kernel_rfl) (by kernel_rfl) hv h
  obtain ⟨dd, hd, _, _⟩ := DataW.trod_string Try.underlying9 h0
  obtain ⟨tt, ht, _, _⟩ := DataW.trod_string Try.underlying9 h1
  obtain ⟨k, hk, _, _⟩ := DataW.trod_int Try.underlying3 h2
  simp only [List.cons.injEq, and_true] at hk hd ht
  subst hk hd ht
  exact ⟨⟨dd.data.toList, tt.data.toList, k⟩, rfl⟩
set_option maxRecDepth 100000 in
theorem open_cmds {len cap : Nat} {A : Option Addr} {d : DataW H} {p : List MemPlace} (h : DataW.Trod enc Try.prog w base spare held 24 (.slice A len cap) d p) :
    ∃ l : List Cm, l.length = len ∧ CmS w A l ∧ len ≤ cap ∧ len ≤ 9223372036854775807 := by
  obtain ⟨fuel, h4⟩ := h
  rcases open_slice_fields Try.underlying24 Try.underlying58 (by kernel_rfl) (by kernel_rfl) h4 with ⟨hc, _⟩ | ⟨a, len, cap, mm, D, Pl, hc, _, hl, hmx, hmm, _, hi⟩
  · simp [Value.cells] at hc
    obtain ⟨rfl, rfl, rfl⟩ := hc
    exact ⟨[], rfl, ⟨fun h0 => by simp at h0⟩, Nat.le_refl _, by decide⟩
  · simp [Value.cells] at hc
    obtain ⟨rfl, rfl, rfl⟩ := hc
    have hlm : len ≤ mm := by rw [hmm]; split <;> omega
    have hcell : ∀ i, i < len → ∃ c : Cm, ∀ j u, (cmL c)[j]? = some u → w.cell? (a.add (i * 8 + j)) = some u := fun i hil => by
      obtain ⟨ys, n', _, _, _, hf⟩ := hi i (by omega)
      obtain ⟨u0, z0, hc0, _, ht0⟩ := hf 0 _ rfl
      obtain ⟨u1, z1, hc1, _, ht1⟩ := hf 1 _ rfl
      obtain ⟨u2, z2, hc2, _, ht2⟩ := hf 2 _ rfl
      obtain ⟨u3, z3, hc3, _, ht3⟩ := hf 3 _ rfl
      obtain ⟨u4, z4, hc4, _, ht4⟩ := hf 4 _ rfl
      obtain ⟨u5, z5, hc5, _, ht5⟩ := hf 5 _ rfl
      obtain ⟨u6, z6, hc6, _, ht6⟩ := hf 6 _ rfl
      obtain ⟨u7, z7, hc7, _, ht7⟩ := hf 7 _ rfl
      obtain ⟨k0, e0, _, _⟩ := DataW.trod_int Try.underlying3 ht0
      obtain ⟨k1, e1, _, _⟩ := DataW.trod_int Try.underlying3 ht1
      obtain ⟨k2, e2, _, _⟩ := DataW.trod_int Try.underlying3 ht2
      obtain ⟨k3, e3, _, _⟩ := DataW.trod_int Try.underlying3 ht3
      obtain ⟨k4, e4, _, _⟩ := DataW.trod_int Try.underlying3 ht4
      obtain ⟨k5, e5, _, _⟩ := DataW.trod_int Try.underlying3 ht5
      obtain ⟨s6, e6, _, _⟩ := DataW.trod_string Try.underlying9 ht6
      obtain ⟨s7, e7, _, _⟩ := DataW.trod_string Try.underlying9 ht7
      simp only [List.cons.injEq, and_true] at e0 e1 e2 e3 e4 e5 e6 e7
      subst e0 e1 e2 e3 e4 e5 e6 e7
      refine ⟨⟨k0, k1, k2, k3, k4, k5, s6.data.toList, s7.data.toList⟩, fun j u hu => ?_⟩
      match j with
      | 0 => simp [cmL] at hu; subst hu; exact hc0
      | 1 => simp [cmL] at hu; subst hu; exact hc1
      | 2 => simp [cmL] at hu; subst hu; exact hc2
      | 3 => simp [cmL] at hu; subst hu; exact hc3
      | 4 => simp [cmL] at hu; subst hu; exact hc4
      | 5 => simp [cmL] at hu; subst hu; exact hc5
      | 6 => simp [cmL] at hu; subst hu; exact hc6
      | 7 => simp [cmL] at hu; subst hu; exact hc7
      | j + 8 => simp [cmL] at hu
    have hch : ∃ f : Nat → Cm, ∀ i, i < len → ∀ j u, (cmL (f i))[j]? = some u → w.cell? (a.add (i * 8 + j)) = some u :=
      ⟨fun i => if h : i < len then (hcell i h).choose else zeroC, fun i hil => by simp only [dif_pos hil]; exact (hcell i hil).choose_spec⟩
    obtain ⟨f, hf⟩ := hch
    refine ⟨(List.range len).map f, by simp, ⟨fun h0 => ?_⟩, hl, Nat.le_trans hl (by simpa [maxLen] using hmx)⟩
    have h0 : 0 < len := by simpa using h0
    obtain ⟨b, o, sp⟩ := a
    have h00 := hf 0 h0 0 _ rfl
    cases sp with
    | some q =>
      exfalso
      simp [World.cell?, Addr.add] at h00
      try (split at h00 <;> simp_all)
    | none =>
      refine ⟨b, o, rfl, ?_, fun j c hj i u hu => ?_⟩
      · rw [Addr.add_lit] at h00
        exact World.block_lt_of_cell? w _ h00
      · rw [List.getElem?_map] at hj
        obtain ⟨q, hq, rfl⟩ := Option.map_eq_some_iff.1 hj
        obtain ⟨hq1, hq2⟩ := List.getElem?_eq_some_iff.1 hq
        simp at hq1 hq2
        subst hq2
        have := hf j hq1 i u hu
        rw [Addr.add_lit, ← Nat.add_assoc] at this
        exact this
end
end Go.Proofs.Ytioohhekamjljaa.Wk

/- The row WireBack. No conditions beside the statement's own. -/
set_option linter.unusedSimpArgs false
set_option linter.unusedVariables false
namespace Go.Proofs.Ytioohhekamjljaa
open Go.ChangeShapes Go.WideShapes Go.ChangeAt Go.RowKit

theorem Try.own : ownKnob Try.prog.godebug = none := by kernel_rfl
theorem Try.laidOut : laidOutB Try.prog = true := by kernel_rfl

section
variable {H : Type} {enc : TypeId × Value → H} {P : Program} {w : World} {base : Nat} {spare : Nat → Bool} {held : Bool}
theorem trodAll_five {t t' t'' t3 t4 : TypeId} {args : Array Value} {ds : List (DataW H)} {ps : List MemPlace} (h : DataW.TrodAll enc P w base spare held [t, t', t'', t3, t4] args.toList ds ps) :
    ∃ v v' v'' v3 v4 d d' d'' d3 d4 p p' p'' p3 p4, args = #[v, v', v'', v3, v4] ∧ ds = [d, d', d'', d3, d4] ∧ ps = p ++ p' ++ p'' ++ p3 ++ p4 ∧ DataW.Trod enc P w base spare held t v d p ∧ DataW.Trod enc P w base spare held t' v' d' p' ∧ DataW.Trod enc P w base spare held t'' v'' d'' p'' ∧ DataW.Trod enc P w base spare held t3 v3 d3 p3 ∧ DataW.Trod enc P w base spare held t4 v4 d4 p4 := by
  obtain ⟨v, vs, d, ds', p, q, hargs, rfl, rfl, hd, hrest⟩ := trodAll_cons h
  obtain ⟨v', vs', d', ds'', p', q', rfl, rfl, rfl, hd', hrest'⟩ := trodAll_cons hrest
  obtain ⟨v'', vs'', d'', ds''', p'', q'', rfl, rfl, rfl, hd'', hrest''⟩ := trodAll_cons hrest'
  obtain ⟨v3, vs3, d3, ds3, p3, q3, rfl, rfl, rfl, hd3, hrest3⟩ := trodAll_cons hrest''
  obtain ⟨v4, vs4, d4, ds4, p4, q4, rfl, rfl, rfl, hd4, hrest4⟩ := trodAll_cons hrest3
  obtain ⟨rfl, rfl, rfl⟩ := trodAll_nil hrest4
  exact ⟨v, v', v'', v3, v4, d, d', d'', d3, d4, p, p', p'', p3, p4, by cases args; simp_all, rfl, by simp, hd, hd', hd'', hd3, hd4⟩
theorem trodAll_mk5 {t t' t'' t3 t4 : TypeId} {v v' v'' v3 v4 : Value} {d d' d'' d3 d4 : DataW H} {p p' p'' p3 p4 : List MemPlace} (h : DataW.Trod enc P w base spare held t v d p) (h' : DataW.Trod enc P w base spare held t' v' d' p')
    (h'' : DataW.Trod enc P w base spare held t'' v'' d'' p'') (h3 : DataW.Trod enc P w base spare held t3 v3 d3 p3) (h4 : DataW.Trod enc P w base spare held t4 v4 d4 p4) : DataW.TrodAll enc P w base spare held [t, t', t'', t3, t4] [v, v', v'', v3, v4] [d, d', d'', d3, d4] (p ++ (p' ++ (p'' ++ (p3 ++ p4)))) := ⟨p, p' ++ (p'' ++ (p3 ++ p4)), h, trodAll_mk4 h' h'' h3 h4, rfl⟩
end

set_option maxRecDepth 100000 in
theorem wireBack_lifted (os : Os) (started : os.Started) (H : Type) (enc : TypeId × Value → H) :
    ReturnsInHanded {} Try.checked os 5 .any (Rows.wireBackSpec.pre6 enc Try.prog Try.f5 Rows.wireBackRow.domain false) (Rows.wireBackSpec.post enc Try.prog Try.f5 false true false false) := by
  refine returnsInHanded_of_change_sized (C := Try.checked) Try.own started (by kernel_rfl) Try.func5
    (ChangeSpec.witness6 (enc := enc) (C := Try.checked) false ⟨#[], #[.agg #[.string ⟨#[]⟩, .string ⟨#[]⟩, .int .i64 0], .slice none 0 0, .int .i64 0, .int .i64 0, .int .u32 0], []⟩ 8 (by kernel_rfl) (by kernel_rfl) (by kernel_rfl) (by kernel_rfl)) ?_
  intro W base args ds gs before hval0 hW _ hsz0 _
  clear hsz0
  have hval : ∀ (j : Nat) t v, Try.f5.params[j]? = some t → args[j]? = some v → Value.okWide Try.prog W .any base t v := hval0
  have hW' := hW
  obtain ⟨p, q, hA0, hV, rfl, _, _⟩ := hW
  have hA : DataW.TrodAll enc Try.prog W 0 (fun _ => true) true Try.f5.params.toList args.toList ds p := hA0
  rw [Try.params5] at hA hval
  obtain ⟨v0, v1, v2, v3, v4, d0, d1, d2, d3, d4, p0, p1, p2, p3, p4, rfl, rfl, rfl, h0, h1, h2, h3, h4⟩ := trodAll_five hA
  obtain ⟨rfl, rfl⟩ := trodVars_none hV
  obtain ⟨h, rfl⟩ := Wk.open_head (hval 0 23 v0 rfl rfl) h0
  obtain ⟨a1, len, cap, rfl⟩ := okWide_slice Try.underlying24 (hval 1 24 v1 rfl rfl)
  obtain ⟨cut, rfl, rfl, rfl, wi⟩ := open_int Try.underlying3 (hval 2 3 v2 rfl rfl) h2
  obtain ⟨at_, rfl, rfl, rfl, wj⟩ := open_int Try.underlying3 (hval 3 3 v3 rfl rfl) h3
  obtain ⟨tu, rfl, rfl, rfl, wk⟩ := open_int Try.underlying66 (hval 4 66 v4 rfl rfl) h4
  obtain ⟨l, hlen, hC, hcap, hmax⟩ := Wk.open_cmds h1
  subst hlen
  obtain ⟨tn, rfl, htn⟩ : ∃ n : Nat, tu = (n : Int) ∧ n < 4294967296 := by
    have hh : IntKind.u32.min ≤ tu ∧ tu ≤ IntKind.u32.max := by simpa [Lit.wf] using wk
    have h1 : (0 : Int) ≤ tu := hh.1
    have h2 : tu ≤ 4294967295 := hh.2
    exact ⟨tu.toNat, by omega, by omega⟩
  have hlt : ∀ z ∈ p0 ++ p1, z.block < W.heap.size := fun z hz => by simpa using hW'.lt z (by simpa using hz)
  have k0 : ∀ (W' : World), Below W.heap.size W W' → DataW.Trod enc Try.prog W' 0 (fun b => decide (b < W.heap.size)) true 23 (Wk.hdV h) d0 p0 :=
    fun W' hn => Below.trod Try.laidOut (by kernel_rfl) (of_decide_eq_true (by kernel_rfl)) h0 hn (fun z hz => hlt z (by simp [hz]))
  have k1 : ∀ (W' : World), Below W.heap.size W W' → DataW.Trod enc Try.prog W' 0 (fun b => decide (b < W.heap.size)) true 24 (.slice a1 l.length cap) d1 p1 :=
    fun W' hn => Below.trod Try.laidOut (by kernel_rfl) (of_decide_eq_true (by kernel_rfl)) h1 hn (fun z hz => hlt z (by simp [hz]))
  refine (Wk.back_any h l a1 cap cut at_ tn W hC hcap hmax htn).mono fun e W' ⟨he, hf⟩ => ?_
  subst he
  have hnx := hf.below
  refine ⟨_, rfl, _, _, _, [], p0 ++ (p1 ++ ([] ++ ([] ++ []))), [], hW', ?_, trodAll_mk5 (k0 _ hnx) (k1 _ hnx) (shut_int Try.underlying3 wi) (shut_int Try.underlying3 wj) (shut_int Try.underlying66 wk), rfl, hnx.frame _, fun h => by cases h⟩
  exact trodAll_mk1 (shut_bool Try.underlying4 true)

theorem wireBack_holds : Rows.WireBackSaid :=
  OpenClaim.holds_of_wide 5 Try.f5 rfl rfl rfl rfl rfl rfl rfl ⟨rfl, rfl, rfl, rfl, rfl⟩ rfl rfl rfl rfl rfl (by kernel_rfl) Try.func5 (by kernel_rfl)
    (of_decide_eq_true (by kernel_rfl)) (by unfold Func.isWrapper; first | (rw [if_pos (by decide +kernel)]; kernel_rfl) | (rw [if_neg (by decide +kernel)]; exact ⟨rfl, rfl⟩))
    (fun os started H enc _ => wireBack_lifted os started H enc)
end Go.Proofs.Ytioohhekamjljaa
