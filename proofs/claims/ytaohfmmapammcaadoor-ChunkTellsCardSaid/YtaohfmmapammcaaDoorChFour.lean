/- Texts joined by merge.py: ChBts, ChRefCut, ChRefPut, ChRefPr, ChTells, ChRowP, ChFive, ChTellsRow. -/
import Derived.Test.YtaohfmmapammcaaDoorOwn
import Derived.Test.YtaohfmmapammcaaDoorSum
import Derived.Test.YtaohfmmapammcaaDoorChTwo
import Derived.Test.YtaohfmmapammcaaDoorChOne
import Derived.Test.YtaohfmmapammcaaDoorDigPr
import Derived.Test.YtaohfmmapammcaaDoorChFA
import Derived.Test.YtaohfmmapammcaaDoorCards
import Derived.Test.YtaohfmmapammcaaDoorTie
import Derived.Test.YtaohfmmapammcaaDoorChecked
import Derived.ProofKit
import Derived.OpenShut
import Derived.Deep.DeepHandedRow
import Derived.Lay
import Derived.ChangeMaps5
import Derived.SevenTiedAt
import Derived.SizedLaws
/- Bytes converted from a text: a row whose mark lies behind its cells; appended to, stored into, read as a text. No conditions beside those written out. -/
set_option linter.unusedSimpArgs false
set_option linter.unusedVariables false
namespace Go.Proofs.YtaohfmmapammcaaDoor.Ev
open Go Go.RowKit Go.Proofs.YtaohfmmapammcaaDoor.Sha Go.Proofs.YtaohfmmapammcaaDoorW.PrintWords Go.Proofs.YtaohfmmapammcaaDoor.Dig

abbrev u8c (l : List UInt8) : List Value := l.map fun b => Value.int .u8 b.toNat
/-- A row of bytes of which no cell is frozen. -/
structure Bts (w : World) (base : Nat) (e : TypeId) (g cap : Nat) (l : List UInt8) : Prop where
  lo : base ≤ g
  ex : ∃ cur fz, w.heap[g]? = some (.cells cur e fz) ∧ (fz.2 ≤ fz.1 ∨ cap ≤ fz.1) ∧ l.length ≤ cap ∧ cap ≤ maxLen ∧ cur.size = cap ∧ cur.toList.take l.length = u8c l

section
variable {w w1 : World} {base : Nat} {e : TypeId} {g cap : Nat} {l : List UInt8} {S : Nat → Prop}
theorem Bts.lt (h : Bts w base e g cap l) : g < w.heap.size := by
  obtain ⟨cur, fz, hg, _⟩ := h.ex
  exact (Array.getElem?_eq_some_iff.1 hg).1
theorem Bts.keep (h : Bts w base e g cap l) (f : Fr S w w1) (hn : ¬ S g) : Bts w1 base e g cap l := by
  obtain ⟨cur, fz, hg, r⟩ := h.ex
  exact ⟨h.lo, cur, fz, Fr.obj hg f hn, r⟩
theorem Bts.no (h : Bts w base e g cap l) (f : Fr No w w1) : Bts w1 base e g cap l := h.keep f (fun hh => hh)
theorem Bts.cell (h : Bts w base e g cap l) (i : Nat) (b : UInt8) (hb : l[i]? = some b) : w.cell? ⟨g, i, none⟩ = some (.int .u8 (b.toNat : Int)) := by
  obtain ⟨cur, fz, hg, _, hl, _, hs, ht⟩ := h.ex
  obtain ⟨hi, hb'⟩ := List.getElem?_eq_some_iff.1 hb
  rw [cell_of_row w g i cur e fz hg]
  have : (cur.toList.take l.length)[i]? = some (.int .u8 (b.toNat : Int)) := by rw [ht, List.getElem?_map, hb]; rfl
  rw [List.getElem?_take_of_lt hi] at this
  simpa using this
theorem Bts.free (h : Bts w base e g cap l) (i : Nat) (hi : i < cap) : w.frozen? ⟨g, i, none⟩ = false := by
  obtain ⟨cur, ⟨lo, hi'⟩, hg, hf, _⟩ := h.ex
  simp only [World.frozen?, hg, Bool.and_eq_false_iff, decide_eq_false_iff_not]
  simp only at hf
  omega
theorem Bts.set (h : Bts w base e g cap l) (i : Nat) (b : UInt8) (hi : i < l.length) : Bts (w.setCell ⟨g, i, none⟩ (.int .u8 (b.toNat : Int))) base e g cap (l.set i b) := by
  obtain ⟨cur, fz, hg, hf, hl, hm, hs, ht⟩ := h.ex
  refine ⟨h.lo, cur.setIfInBounds i (.int .u8 (b.toNat : Int)), fz, ?_, hf, by simpa using hl, hm, by simpa using hs, ?_⟩
  · rw [setCell_eq_setRow w g i cur e fz _ hg]
    exact setRow_heap w g cur _ e fz hg
  · rw [Array.toList_setIfInBounds, List.length_set, List.take_set, ht]
    simp [u8c, List.map_set]
/-- One byte more, where there is room. -/
theorem Bts.more (h : Bts w base e g cap l) (b : UInt8) (hi : l.length < cap) : Bts (w.setCell ⟨g, l.length, none⟩ (.int .u8 (b.toNat : Int))) base e g cap (l ++ [b]) := by
  obtain ⟨cur, fz, hg, hf, hl, hm, hs, ht⟩ := h.ex
  refine ⟨h.lo, cur.setIfInBounds l.length (.int .u8 (b.toNat : Int)), fz, ?_, hf, by simp; omega, hm, by simpa using hs, ?_⟩
  · rw [setCell_eq_setRow w g l.length cur e fz _ hg]
    exact setRow_heap w g cur _ e fz hg
  · have hc : l.length < cur.toList.length := by simp only [Array.length_toList]; omega
    rw [Array.toList_setIfInBounds, List.length_append, List.length_singleton, List.take_add_one, List.take_set, ht, List.getElem?_set_self hc]
    rw [List.set_eq_of_length_le (by simp)]
    simp [u8c]
theorem Bts.at_room (h : Bts w base e g cap l) (hi : l.length < cap) : ∃ v, w.cell? ⟨g, l.length, none⟩ = some v := by
  obtain ⟨cur, fz, hg, hf, hl, hm, hs, ht⟩ := h.ex
  rw [cell_of_row w g l.length cur e fz hg]
  have hlt : l.length < cur.size := by omega
  exact ⟨cur[l.length], Array.getElem?_eq_getElem hlt⟩
end

section
variable {P : Program} {ops : Array Oper} {rest : List Oper} {o : Oper} {a : Act} {Q : Exit → Act → World → Prop} {W : World}

/-- '[]byte(s)'. -/
theorem ev_bts (hgd : o.guard = none) (src dst : TypeId) (x : Operand) (ho : o.op = .convert src dst x) (l : List UInt8) (hx : a.eval x = .string (bs l)) {u : TypeDesc} (e : TypeId)
    (hs : P.underlying src = some u) (hd : P.underlying dst = some (.slice e)) (he : P.underlying e = some (.int .u8)) (hm : l.length ≤ maxLen)
    (h : ∀ g c w1, Fr No W w1 → Bts w1 W.heap.size e g c l → wpList P ops Q rest (a.put o.dst (.slice (some ⟨g, 0, none⟩) l.length c)) w1) : wpList P ops Q (o :: rest) a W := by
  have hz : (bs l).size = l.length := bs_size l
  have hr := Lib.run_convert_string_bytes (P := P) W src dst e (bs l) hs hd he
  rw [hz] at hr
  have hge := grownCap_ge W l.length 0 e
  refine run_value hgd (w1 := Lib.bytesWorld W e (bs l)) (v := .slice (some ⟨W.heap.size, 0, none⟩) l.length (grownCap W l.length 0 e)) ?_ (h _ _ _
    (Fr.of_below ⟨rfl, rfl, rfl, by rw [Lib.bytesWorld_size]; omega, fun i hi => Lib.bytesWorld_at_old W e (bs l) i (by omega)⟩) ⟨Nat.le_refl _, _, _, Lib.bytesWorld_at_new W e (bs l), ?_, hge, grownCap_le_maxLen W _ 0 e hm, ?_, ?_⟩)
  · simp [execOp, ho, hx, hr, Sem.run_bind, Result.andThen]
  · right
    simp only [Lib.bytesCells, Array.size_append, Array.size_map, Array.size_replicate, hz]
    have : l.toArray.size = l.length := by simp
    have : (bs l).data.size = l.length := hz
    omega
  · simp only [Lib.bytesCells, Array.size_append, Array.size_map, Array.size_replicate, hz]
    have : l.toArray.size = l.length := by simp
    have : (bs l).data.size = l.length := hz
    omega
  · have : ((bs l).data.map fun b => Value.int .u8 (b.toNat : Int)).toList = u8c l := by simp [u8c, bs]
    rw [Lib.bytesCells, Array.toList_append, this, List.take_left' (by simp)]

/-- 'append(b, 0)'. -/
theorem ev_nought (hgd : o.guard = none) (s x : Operand) (t e : TypeId)
    (ho : o.op = .call { callee := .builtin .append, args := #[s, x], argTypes := #[t, t] })
    (ht : P.underlying t = some (.slice e)) (hinfo : (P.info? e).map (fun i => (i.zero, i.size, i.bytes)) = some (some (.int .u8 0), 1, 1))
    (base g cap : Nat) (l : List UInt8) (n : Nat) (hn : n = l.length) (hs : a.eval s = .slice (some ⟨g, 0, none⟩) n cap) (hB : Bts W base e g cap l) (hbase : base ≤ W.heap.size)
    (gl : Nat) (b : UInt8) (hx : a.eval x = .slice (some ⟨gl, 0, none⟩) 1 1) (hnew : Blk W gl e [.int .u8 (b.toNat : Int)]) (hl : l.length < 140737488355328)
    (h : ∀ g' c w1, Bts w1 base e g' c (l ++ [b]) → Fr (One g) W w1 → wpList P ops Q rest (a.put o.dst (.slice (some ⟨g', 0, none⟩) (n + 1) c)) w1) : wpList P ops Q (o :: rest) a W := by
  subst hn
  obtain ⟨i0, hi, hzz⟩ := Option.map_eq_some_iff.1 hinfo
  simp only [Prod.mk.injEq] at hzz
  obtain ⟨hz0, hz1, hz2⟩ := hzz
  have hnews : ∀ j v, [Value.int .u8 (b.toNat : Int)][j]? = some v → W.cell? ((⟨gl, 0, none⟩ : Addr).add j) = some v := news_blk hnew
  by_cases hroom : l.length + 1 ≤ cap
  · obtain ⟨v0, hv0⟩ := hB.at_room (by omega)
    have hf := run_firstCells_some (P := P) W 1 1 ⟨gl, 0, none⟩ 1 1 [.int .u8 (b.toNat : Int)] rfl hnews
    have hst : (store ⟨g, l.length, none⟩ (.int .u8 (b.toNat : Int))).run P W = .ok () (W.setCell ⟨g, l.length, none⟩ (.int .u8 (b.toNat : Int))) := by
      rw [run_store P W ⟨g, l.length, none⟩ _ .plain rfl]
      simp [hv0, hB.free l.length (by omega)]
    have hr : (Builtin.append_ #[t, t] o.type #[.slice (some ⟨g, 0, none⟩) l.length cap, .slice (some ⟨gl, 0, none⟩) 1 1]).run P W = .ok (.slice (some ⟨g, 0, none⟩) (l.length + 1) cap) (W.setCell ⟨g, l.length, none⟩ (.int .u8 (b.toNat : Int))) := by
      simp [Builtin.append_, run_underlying ht, sizeOf, typeInfo, hi, hz1, Builtin.lenOf, hroom, hf, Addr.add_lit, storeCells, hst]
    refine run_value hgd ?_ (h g cap _ (hB.more b (by omega)) (Fr.setCell _ _ _ _))
    simp [execOp, ho, resolve, invoke, builtin, Sem.run_bind, Sem.run_pure, Result.andThen_ok, hs, hx, hr]
  · have holds : ∀ j v, (u8c l)[j]? = some v → W.cell? ((⟨g, 0, none⟩ : Addr).add j) = some v := fun j v hv => by
      rw [Addr.add_lit, Nat.zero_add]
      obtain ⟨b', hb', rfl⟩ := Option.map_eq_some_iff.1 ((List.getElem?_map ..).symm.trans hv)
      exact hB.cell j b' hb'
    have hr := run_append_grow (P := P) W t o.type e i0 (.int .u8 0) ht hi hz0 ⟨g, 0, none⟩ l.length cap (u8c l) (by rw [hz1]; simp) holds ⟨gl, 0, none⟩ 1 1 [.int .u8 (b.toNat : Int)] (by rw [hz1]; rfl) hnews (by omega) (by omega) (growslice_fits (by omega) (by rw [hz2]; omega))
    have hge := grownCap_ge W (l.length + 1) cap e
    have hmx : grownCap W (l.length + 1) cap e ≤ maxLen := grownCap_le_maxLen W (l.length + 1) cap e (by simp only [maxLen]; omega)
    have hbel : ∀ x, Below W.heap.size W (W.drew.alloc x) := fun x => ⟨rfl, rfl, rfl, by simp, fun k hk => heap_alloc_old W.drew x hk⟩
    refine run_value hgd ?_ (h W.heap.size (grownCap W (l.length + 1) cap e) (W.drew.alloc (.cells ((u8c l).toArray ++ [Value.int .u8 (b.toNat : Int)].toArray ++ Builtin.zeroCells (Value.int .u8 0).cells (grownCap W (l.length + 1) cap e - (l.length + 1))) e)) ⟨hbase, _, _, heap_alloc_new W.drew _, .inl (Nat.le_refl _), by simpa using hge, hmx, ?_, ?_⟩ ((Fr.of_below (hbel _)).mono (fun i h => h.elim)))
    · simp [execOp, ho, resolve, invoke, builtin, Sem.run_bind, Sem.run_pure, Result.andThen_ok, hs, hx, hr]
    · have hz1' : (Value.int IntKind.u8 0).cells.size = 1 := rfl
      simp only [Array.size_append, List.size_toArray, size_zeroCells, hz1', List.length_map, List.length_singleton]
      omega
    · simp only [Array.toList_append, List.append_assoc]
      rw [← List.append_assoc]
      have : u8c l ++ [.int .u8 (b.toNat : Int)] = u8c (l ++ [b]) := by simp [u8c]
      rw [this, List.take_left' (by simp)]

/-- 'b[i] = x'. -/
theorem ev_btset (hgd : o.guard = none) (ty : TypeId) (x y : Operand) (ho : o.op = .store ty x y) (base : Nat) (e : TypeId) (g cap i : Nat) (l : List UInt8) (b : UInt8) (hx : a.eval x = .pointer (some ⟨g, i, none⟩)) (hy : a.eval y = .int .u8 (b.toNat : Int))
    (hB : Bts W base e g cap l) (hil : i < l.length) (hi : (P.info? ty).map (·.size) = some 1)
    (h : ∀ w1, Fr (One g) W w1 → Bts w1 base e g cap (l.set i b) → wpList P ops Q rest (a.put o.dst undef) w1) : wpList P ops Q (o :: rest) a W := by
  have hc := hB.cell i l[i] (List.getElem?_eq_getElem hil)
  have hcap : l.length ≤ cap := by obtain ⟨cur, fz, _, _, hl, _⟩ := hB.ex; exact hl
  have hf := hB.free i (by omega)
  have hsz : (sizeOf ty).run P W = .ok 1 W := by
    obtain ⟨q, hq, hq1⟩ := Option.map_eq_some_iff.1 hi
    simp [sizeOf, typeInfo, hq, hq1]
  have hadd : (⟨g, i, none⟩ : Addr).add 0 = ⟨g, i, none⟩ := by unfold Addr.add; split <;> simp_all
  have hst : (store ⟨g, i, none⟩ (.int .u8 (b.toNat : Int))).run P W = .ok () (W.setCell ⟨g, i, none⟩ (.int .u8 (b.toNat : Int))) := by
    rw [run_store P W ⟨g, i, none⟩ _ .plain rfl]
    simp [hc, hf]
  have hcells : (Value.int .u8 (b.toNat : Int)).cells = #[.int .u8 (b.toNat : Int)] := rfl
  refine run_skip hgd (w1 := W.setCell ⟨g, i, none⟩ (.int .u8 (b.toNat : Int))) ?_ (h _ (Fr.setCell _ _ _ _) (hB.set i b hil))
  simp [execOp, ho, hx, hy, Instr.storeAt, Instr.sureAddr, storeVar, hcells, hsz, storeCells, hadd, hst, Sem.run_bind, Result.andThen]

/-- 'string(b)'. -/
theorem ev_btstr (hgd : o.guard = none) (src dst e : TypeId) (x : Operand) (ho : o.op = .convert src dst x)
    (hs : P.underlying src = some (.slice e)) (he : P.underlying e = some (.int .u8)) (hd : P.underlying dst = some .string)
    (base : Nat) (e' : TypeId) (g cap n : Nat) (l : List UInt8) (hn : n = l.length) (hx : a.eval x = .slice (some ⟨g, 0, none⟩) n cap) (hB : Bts W base e' g cap l)
    (h : wpList P ops Q rest (a.put o.dst (.string (bs l))) W) : wpList P ops Q (o :: rest) a W := by
  subst hn
  have hr := run_convert_bytes_arg (P := P) W src e hs he g 0 l.length cap (l.map fun b => (b.toNat : Int)) (by simp) (fun i hi => by
    rw [Nat.zero_add, hB.cell i l[i] (List.getElem?_eq_getElem hi)]
    simp [List.getD_eq_getElem?_getD, hi]) dst hd
  rw [strOf_bytes] at hr
  refine run_value hgd ?_ h
  simp [execOp, ho, hx, hr, Sem.run_bind, Result.andThen]
end
end Go.Proofs.YtaohfmmapammcaaDoor.Ev

/- The document's Cut, Names. Conditions: sizes are bounded, as written out. -/
set_option linter.unusedSimpArgs false
set_option linter.unusedVariables false
namespace Go.Proofs.YtaohfmmapammcaaDoor.Ch
open Go Go.RowKit Go.Proofs.YtaohfmmapammcaaDoorW.PrintWords Go.Proofs.YtaohfmmapammcaaDoor.Reg Go.Proofs.YtaohfmmapammcaaDoor.Sha Go.Proofs.YtaohfmmapammcaaDoor.Dig Go.Proofs.YtaohfmmapammcaaDoor.Ev

/-- Chunks of the first i bytes, the last of them begun. -/
def begun (s : List UInt8) (i : Nat) : List (List UInt8) := (List.range (i / 16 + 1)).map (pieceL 16 (s.take i))
theorem begun_len (s : List UInt8) (i : Nat) : (begun s i).length = i / 16 + 1 := by simp [begun]
theorem cutTake_len (s : List UInt8) (i : Nat) (h : i ≤ s.length) : (cutL (s.take i)).length = (i + 15) / 16 := by
  rw [cutZ_len, cutN, List.length_take, Nat.min_eq_left h]
theorem begun_new (s : List UInt8) (i : Nat) (h : i ≤ s.length) (hm : i % 16 = 0) : cutL (s.take i) ++ [[]] = begun s i := by
  have h1 : cutN 16 (s.take i) = i / 16 := by rw [cutN, List.length_take, Nat.min_eq_left h]; omega
  unfold begun cutL cutZ
  rw [h1, List.range_succ, List.map_append, List.map_singleton]
  congr 2
  unfold pieceL
  rw [List.drop_of_length_le (by rw [List.length_take]; omega)]
  rfl
theorem begun_old (s : List UInt8) (i : Nat) (h : i ≤ s.length) (hm : ¬ i % 16 = 0) : cutL (s.take i) = begun s i := by
  have h1 : cutN 16 (s.take i) = i / 16 + 1 := by rw [cutN, List.length_take, Nat.min_eq_left h]; omega
  unfold begun cutL cutZ
  rw [h1]
theorem begun_last (s : List UInt8) (i : Nat) : (begun s i)[i / 16]? = some (pieceL 16 (s.take i) (i / 16)) := by simp [begun]
theorem begun_set (s : List UInt8) (i : Nat) (x : UInt8) (hx : s[i]? = some x) : (begun s i).set (i / 16) (pieceL 16 (s.take i) (i / 16) ++ [x]) = cutL (s.take (i + 1)) := by
  obtain ⟨hi, _⟩ := List.getElem?_eq_some_iff.1 hx
  have h1 : cutN 16 (s.take (i + 1)) = i / 16 + 1 := by rw [cutN, List.length_take, Nat.min_eq_left (by omega)]; omega
  have hp : ∀ j k, pieceL 16 (s.take j) k = (s.drop (16 * k)).take (min 16 (j - 16 * k)) := fun j k => by
    unfold pieceL
    rw [List.drop_take, List.take_take]
  apply List.ext_getElem?
  intro k
  by_cases hk : k < i / 16 + 1
  · rw [cutZ_get 16 _ k (by omega)]
    by_cases e : k = i / 16
    · subst e
      rw [List.getElem?_set_self (by rw [begun_len]; omega), hp, hp, show min 16 (i + 1 - 16 * (i / 16)) = (i - 16 * (i / 16)) + 1 by omega, show min 16 (i - 16 * (i / 16)) = i - 16 * (i / 16) by omega, List.take_add_one, List.getElem?_drop, show 16 * (i / 16) + (i - 16 * (i / 16)) = i by omega, hx]
      rfl
    · rw [List.getElem?_set_ne (by omega)]
      have : (begun s i)[k]? = some (pieceL 16 (s.take i) k) := by simp [begun, hk]
      rw [this, hp, hp, show min 16 (i - 16 * k) = 16 by omega, show min 16 (i + 1 - 16 * k) = 16 by omega]
  · rw [List.getElem?_eq_none (by rw [List.length_set, begun_len]; omega), List.getElem?_eq_none (by rw [cutZ_len]; omega)]

set_option maxHeartbeats 4000000 in
set_option maxRecDepth 100000 in
theorem rcut_any (s : List UInt8) (hs : s.length ≤ 1073741824) (w : World) :
    Calls Tryd.prog 19 #[.string (bs s)] w fun e w' => ∃ A c, e = .returned (.slice A (cutL s).length c) ∧ w'.ownsRow w.heap.size 9 1 (.slice A (cutL s).length c) (cutL s).length (vals (cutL s)) ∧ Fr No w w' := by
  have hsz : (bs s).size = s.length := bs_size s
  go_enter Tryd.func19, Tryd.ntmps19
  go_wp2_with fail
  go_loopg [3, 4] s.length (fun kq v3 v4 wr => ∃ (i N : Nat) (A : Option Addr) (c : Nat), kq + i = s.length ∧ N = (i + 15) / 16 ∧ v3 = .slice A N c ∧ v4 = .int .i64 (i : Int) ∧ Kp (Fr No w wr) ∧ Kp (wr.ownsRow w.heap.size 9 1 (.slice A N c) N (vals (cutL (s.take i)))))
  case atStart => exact ⟨0, 0, none, 0, by omega, by omega, rfl, rfl, ⟨Fr.refl _ _⟩, ⟨by rw [List.take_zero]; exact World.ownsRow_nil _ _ _ _⟩⟩
  case round =>
    obtain ⟨i, N, A, c, hk, hN, rfl, rfl, F, HO⟩ := hrel
    by_cases his : i < s.length
    · have hisz : (i : Int) < (s.length : Int) := by omega
      obtain ⟨x, hx⟩ : ∃ x, s[i]? = some x := ⟨_, List.getElem?_eq_getElem his⟩
      have he : (bs s).extract i (i + 1) = bs [x] := by
        rw [ext_bs, Nat.add_sub_cancel_left, List.take_one, List.head?_drop, hx]; rfl
      obtain ⟨q, hq⟩ : ∃ q, q = i / 16 := ⟨_, rfl⟩
      obtain ⟨L, hL⟩ : ∃ L, L = pieceL 16 (s.take i) q := ⟨_, rfl⟩
      have HS := begun_set s i x hx
      rw [← hq, ← hL] at HS
      replace HS := Kp.mk HS
      have hLl : L.length ≤ 16 := by rw [hL, pieceL_len]; omega
      have hLz : (bs L).size = L.length := bs_size L
      have hxz : (bs [x]).size = 1 := bs_size [x]
      have HK := Kp.mk hk
      have hi0 : (0 : Int) ≤ (i : Int) := by omega
      have hi1 : (i : Int) + 1 ≤ (s.length : Int) := by omega
      have hi2 : (i : Int) ≤ (i : Int) + 1 := by omega
      have hi3 : (0 : Int) ≤ (i : Int) + 1 := by omega
      have hNb : N ≤ 1073741824 := by omega
      by_cases hm : i % 16 = 0
      · have hmz : (i : Int) % 16 = 0 := by omega
        have HB := Kp.mk (begun_new s i (by omega) hm)
        obtain rfl : q = N := by omega
        have HQ := Kp.mk hq
        have HL := Kp.mk hL
        clear hk hx hN hq hL
        go_wp2_with (first
          | ((with_reducible refine gate_dst (N := 15) rfl ?_); refine ev_lit rfl 9 [.string ⟨#[]⟩] 1 (by first | (go_simp; done) | (go_simp; rfl)) ?_; intro gl w5 hgl f5 bl)
          | ((with_reducible refine gate_dst (N := 16) rfl ?_); refine ev_append rfl (.tmp 14) (.tmp 15) 35 9 (.string ⟨#[]⟩) 1 16 rfl Tryd.underlying35 infoStr rfl (by decide) (by decide) w.heap.size _ _ _ rfl (own_no HO.out f5) (by have := F.out.size; have := f5.size; omega) ⟨gl, 0, none⟩ 1 1 _ rfl rfl (news_blk bl) (by simp [Value.oneCell']) (by omega) ?_; intro B c' wB o6 f6 hat))
        have OB : Kp (wB.ownsRow w.heap.size 9 1 (.slice B (q + 1) c') (q + 1) (vals (begun s i))) := ⟨by rw [← HB.out]; simpa [vals] using o6⟩
        have FB : Kp (Fr No w wB) := ⟨(F.out.no f5).trans f6 (fun k hk => .inr (own_new_base HO.out k hk))⟩
        clear HO F f6 o6 hat f5 bl
        obtain ⟨g, rfl⟩ : ∃ g, B = some ⟨g, 0, none⟩ := by
          rcases OB.out.2 with ⟨h1, h2⟩ | ⟨g, cap, cur, h1, _⟩
          · omega
          · injection h1 with h1
            exact ⟨g, h1⟩
        have hc := OB.out.cellAt q (by omega)
        rw [vals_get, HQ.out, begun_last] at hc
        rw [← HQ.out] at hc
        have hf := OB.out.frozenAt q
        have hgw := own_new_base OB.out g rfl
        have hcc : wB.cell? ⟨g, q, none⟩ = some (.string (bs L)) := by rw [HL.out]; exact hc
        clear hc hm
        refine wp_region_drawn_tail 17 (by kernel_rfl) (by kernel_rfl) ?_
        simp only [List.take_succ_cons, List.take_zero, List.drop_succ_cons, List.drop_zero]
        repeat (first | go_big_quiet_step (fail) | quiet_step (fail))
        refine wpQuiet_nil ?_
        rintro _ ⟨m, rfl⟩
        have hc2 : (wB.drewN m).cell? ⟨g, q, none⟩ = some (.string (bs L)) := by rw [World.cell?_drewN]; exact hcc
        have hf2 : (wB.drewN m).frozen? ⟨g, q, none⟩ = false := hf
        clear hcc hf
        go_wp2_with fail
        go_roundg (gk - 1)
        case measure => have := HK.out; omega
        case rel =>
          have h5 := (own_no OB.out ((Fr.refl No wB).drewN m)).stored q (.string (bs (L ++ [x])))
          refine ⟨i + 1, q + 1, _, c', by have := HK.out; omega, by have := HQ.out; omega, rfl, by go_num, ⟨(FB.out.drewN m).one (Fr.setCell (wB.drewN m) g _ _) (.inr hgw)⟩, ⟨?_⟩⟩
          rw [← HS.out, bs_append]
          simpa [vals, List.map_set] using h5.1
      · have hmz : ¬ (i : Int) % 16 = 0 := by omega
        have HB := Kp.mk (begun_old s i (by omega) hm)
        obtain rfl : N = q + 1 := by omega
        have HQ := Kp.mk hq
        have HL := Kp.mk hL
        clear hk hx hN hq hL
        go_wp2_with fail
        have OB : Kp (wr.ownsRow w.heap.size 9 1 (.slice A (q + 1) c) (q + 1) (vals (begun s i))) := ⟨by rw [← HB.out]; exact HO.out⟩
        clear HO
        obtain ⟨g, rfl⟩ : ∃ g, A = some ⟨g, 0, none⟩ := by
          rcases OB.out.2 with ⟨h1, h2⟩ | ⟨g, cap, cur, h1, _⟩
          · omega
          · injection h1 with h1
            exact ⟨g, h1⟩
        have hc := OB.out.cellAt q (by omega)
        rw [vals_get, HQ.out, begun_last] at hc
        rw [← HQ.out] at hc
        have hf := OB.out.frozenAt q
        have hgw := own_new_base OB.out g rfl
        have hcc : wr.cell? ⟨g, q, none⟩ = some (.string (bs L)) := by rw [HL.out]; exact hc
        clear hc hm
        refine wp_region_drawn_tail 17 (by kernel_rfl) (by kernel_rfl) ?_
        simp only [List.take_succ_cons, List.take_zero, List.drop_succ_cons, List.drop_zero]
        repeat (first | go_big_quiet_step (fail) | quiet_step (fail))
        refine wpQuiet_nil ?_
        rintro _ ⟨m, rfl⟩
        have hc2 : (wr.drewN m).cell? ⟨g, q, none⟩ = some (.string (bs L)) := by rw [World.cell?_drewN]; exact hcc
        have hf2 : (wr.drewN m).frozen? ⟨g, q, none⟩ = false := hf
        clear hcc hf
        go_wp2_with fail
        go_roundg (gk - 1)
        case measure => have := HK.out; omega
        case rel =>
          have h5 := (own_no OB.out ((Fr.refl No wr).drewN m)).stored q (.string (bs (L ++ [x])))
          refine ⟨i + 1, q + 1, _, c, by have := HK.out; omega, by have := HQ.out; omega, rfl, by go_num, ⟨(F.out.drewN m).one (Fr.setCell (wr.drewN m) g _ _) (.inr hgw)⟩, ⟨?_⟩⟩
          rw [← HS.out, bs_append]
          simpa [vals, List.map_set] using h5.1
    · obtain rfl : i = s.length := by omega
      have hisz : ¬ (s.length : Int) < (s.length : Int) := by omega
      have hNl : N = (cutL s).length := by have := cutTake_len s s.length (Nat.le_refl _); rw [List.take_length] at this; omega
      rw [List.take_length] at HO
      have HNl := Kp.mk hNl
      clear hk hN hNl
      go_wp2_with fail
      go_ret
      exact ⟨A, c, by rw [← HNl.out]; rfl, by rw [← HNl.out]; exact HO.out, F.out⟩

theorem namesTake (l : List UInt8) (i : Nat) (c : List UInt8) (h : (cutL l)[i]? = some c) : vals ((namesL l).take (i + 1)) = vals ((namesL l).take i) ++ [.string (bs (nameL c))] := by
  rw [List.take_add_one]
  have : (namesL l)[i]? = some (nameL c) := by rw [namesL, List.getElem?_map, h]; rfl
  rw [this]
  simp [vals]
set_option maxHeartbeats 4000000 in
set_option maxRecDepth 100000 in
theorem rnames_any (s : List UInt8) (hs : s.length ≤ 1073741824) (w : World) :
    Calls Tryd.prog 21 #[.string (bs s)] w fun e w' => ∃ A c, e = .returned (.slice A (namesL s).length c) ∧ w'.ownsRow w.heap.size 9 1 (.slice A (namesL s).length c) (namesL s).length (vals (namesL s)) ∧ Fr No w w' := by
  have hsz : (bs s).size = s.length := bs_size s
  have HN : Kp ((namesL s).length = (cutL s).length) := ⟨namesL_len s⟩
  have hNb : (cutL s).length ≤ 1073741824 := by rw [cutZ_len]; unfold cutN; omega
  have CC := Kp.mk (rcut_any s hs)
  rw [HN.out]
  obtain ⟨N, hN⟩ : ∃ N, N = (cutL s).length := ⟨_, rfl⟩
  rw [← hN] at CC hNb ⊢
  have HNN := Kp.mk hN
  clear hN
  go_enter Tryd.func21, Tryd.ntmps21
  go_wp2_with (go_at_call 19; refine (CC.out _).mono ?_; rintro e w1 ⟨A, c, rfl, ho, f1⟩)
  have HO := Kp.mk ho
  have F1 := Kp.mk f1
  clear ho f1
  go_loopg [3, 5] N (fun kq v3 v5 wr => ∃ (i : Nat) (B : Option Addr) (d : Nat), kq + i = N ∧ v3 = .slice B i d ∧ v5 = .int .i64 (i : Int) ∧ Kp (Fr No w1 wr) ∧ Kp (wr.ownsRow w1.heap.size 9 1 (.slice B i d) i (vals ((namesL s).take i))))
  case atStart => exact ⟨0, none, 0, by omega, rfl, rfl, ⟨Fr.refl _ _⟩, ⟨by rw [List.take_zero]; exact World.ownsRow_nil _ _ _ _⟩⟩
  case round =>
    obtain ⟨i, B, d, hk, rfl, rfl, F, OB⟩ := hrel
    by_cases hiN : i < N
    · have hiNz : (i : Int) < (N : Int) := by omega
      obtain ⟨g, rfl⟩ : ∃ g, A = some ⟨g, 0, none⟩ := by
        rcases HO.out.2 with ⟨h1, h2⟩ | ⟨g, cap, cur, h1, _⟩
        · injection h1 with h1 h3 h4
          omega
        · injection h1 with h1
          exact ⟨g, h1⟩
      obtain ⟨x, hx⟩ : ∃ x, (cutL s)[i]? = some x := ⟨_, List.getElem?_eq_getElem (by rw [← HNN.out]; exact hiN)⟩
      have hxl : x.length ≤ 16 := by
        obtain ⟨h1, h2⟩ := List.getElem?_eq_some_iff.1 hx
        rw [← h2]
        exact cut_size s (by omega) i h1
      have hc : wr.cell? ⟨g, i, none⟩ = some (.string (bs x)) := by
        rw [(own_no HO.out F.out).cellAt i (by omega), vals_get, hx]; rfl
      have CN := Kp.mk (rname_any x (by omega))
      have HT := Kp.mk (namesTake s i x hx)
      have HK := Kp.mk hk
      generalize nameL x = M at CN HT
      clear hk hx
      go_wp2_with (first
        | (go_at_call 22; refine (CN.out _).mono ?_; rintro e w3 ⟨rfl, f3⟩)
        | ((with_reducible refine gate_dst (N := 20) rfl ?_); refine ev_lit rfl 9 [.string (bs M)] 1 (by first | (go_simp; done) | (go_simp; rfl)) ?_; intro gl w5 hgl f5 bl)
        | ((with_reducible refine gate_dst (N := 21) rfl ?_); refine ev_append rfl (.tmp 14) (.tmp 20) 35 9 (.string ⟨#[]⟩) 1 16 rfl Tryd.underlying35 infoStr rfl (by decide) (by decide) w1.heap.size _ _ _ rfl (own_no (own_no OB.out f3) f5) (by have := F.out.size; have := f3.size; have := f5.size; omega) ⟨gl, 0, none⟩ 1 1 _ rfl rfl (news_blk bl) (by simp [Value.oneCell']) (by omega) ?_; intro A2 c2 w6 o6 f6 hat))
      go_roundg (gk - 1)
      case measure => have := HK.out; omega
      case rel => exact ⟨i + 1, A2, c2, by have := HK.out; omega, rfl, by go_num, ⟨((F.out.no f3).no f5).trans f6 (fun k hk => .inr (own_new_base OB.out k hk))⟩, ⟨by rw [HT.out]; exact o6⟩⟩
    · obtain rfl : i = N := by omega
      have hiNz : ¬ (i : Int) < (i : Int) := by omega
      have hal : (namesL s).take i = namesL s := List.take_of_length_le (by rw [HN.out, HNN.out]; exact Nat.le_refl _)
      rw [hal] at OB
      clear hal hk
      go_wp2_with fail
      go_ret
      exact ⟨B, d, rfl, own_le OB.out F1.out.size, F1.out.no F.out⟩
end Go.Proofs.YtaohfmmapammcaaDoor.Ch

/- The document's Put, Copy. Conditions: sizes are bounded, as written out. -/
set_option linter.unusedSimpArgs false
set_option linter.unusedVariables false
namespace Go.Proofs.YtaohfmmapammcaaDoor.Ch
open Go Go.RowKit Go.Proofs.YtaohfmmapammcaaDoorW.PrintWords Go.Proofs.YtaohfmmapammcaaDoor.Sha Go.Proofs.YtaohfmmapammcaaDoor.Dig Go.Proofs.YtaohfmmapammcaaDoor.Ev

/-- The bytes, with noughts up to a length. -/
def upTo (s : List UInt8) (z : Nat) : List UInt8 := s ++ List.replicate (z - s.length) 0
theorem upTo_len (s : List UInt8) (z : Nat) : (upTo s z).length = max s.length z := by simp [upTo]; omega
/-- Bytes laid over: the first i of d. -/
def laid (l : List UInt8) (o : Nat) (d : List UInt8) (i : Nat) : List UInt8 := l.take o ++ (d.take i ++ l.drop (o + i))
theorem laid_zero (l : List UInt8) (o : Nat) (d : List UInt8) : laid l o d 0 = l := by simp [laid]
theorem laid_len (l : List UInt8) (o : Nat) (d : List UInt8) (i : Nat) (h : o + d.length ≤ l.length) (hi : i ≤ d.length) : (laid l o d i).length = l.length := by
  simp [laid]; omega
theorem laid_set (l : List UInt8) (o : Nat) (d : List UInt8) (i : Nat) (x : UInt8) (h : o + d.length ≤ l.length) (hx : d[i]? = some x) : (laid l o d i).set (o + i) x = laid l o d (i + 1) := by
  obtain ⟨hi, hx'⟩ := List.getElem?_eq_some_iff.1 hx
  have h1 : (l.take o).length = o := by rw [List.length_take]; omega
  have h2 : (d.take i).length = i := by rw [List.length_take]; omega
  unfold laid
  rw [List.set_append, if_neg (by omega), h1, Nat.add_sub_cancel_left, List.set_append, if_neg (by omega), h2, Nat.sub_self, List.drop_eq_getElem_cons (by omega : o + i < l.length), List.set_cons_zero, List.take_add_one, hx]
  simp [Nat.add_assoc]
theorem laid_all (s : List UInt8) (o : Nat) (d : List UInt8) : laid (upTo s (o + d.length)) o d d.length = (fullL s (o : Int)).take o ++ d ++ (fullL s (o : Int)).drop (o + d.length) := by
  unfold laid
  rw [List.take_of_length_le (Nat.le_refl d.length), List.append_assoc]
  have h1 : (upTo s (o + d.length)).take o = (fullL s (o : Int)).take o := by
    apply List.ext_getElem?
    intro i
    by_cases hi : i < o
    · rw [List.getElem?_take_of_lt hi, List.getElem?_take_of_lt hi, full_get s _ i (by rw [fullL_len]; omega), upTo]
      by_cases h : i < s.length
      · rw [List.getElem?_append_left h, if_pos h]
      · rw [List.getElem?_append_right (by omega), if_neg h, List.getElem?_replicate, if_pos (by omega)]
    · rw [List.getElem?_eq_none (by rw [List.length_take]; omega), List.getElem?_eq_none (by rw [List.length_take]; omega)]
  have h2 : (upTo s (o + d.length)).drop (o + d.length) = (fullL s (o : Int)).drop (o + d.length) := by
    rcases Nat.le_total s.length (o + d.length) with h | h
    · rw [List.drop_of_length_le (by rw [upTo_len]; omega), List.drop_of_length_le (by rw [fullL_len]; omega)]
    · have e1 : upTo s (o + d.length) = s := by unfold upTo; rw [show o + d.length - s.length = 0 by omega]; simp
      have e2 : fullL s (o : Int) = s := by unfold fullL zerosL; rw [show ((o : Int) - s.length).toNat = 0 by omega]; simp
      rw [e1, e2]
  rw [h1, h2]

theorem infoByte' : (Tryd.prog.info? 5).map (fun i => (i.zero, i.size, i.bytes)) = some (some (.int .u8 0), 1, 1) := by kernel_rfl
set_option maxHeartbeats 4000000 in
set_option maxRecDepth 100000 in
theorem rput_any (s : List UInt8) (off : Int) (d : List UInt8) (hs : s.length ≤ 1073741824) (hd : d.length ≤ 1073741824) (w : World) :
    Calls Tryd.prog 10 #[.string (bs s), .int .i64 off, .string (bs d)] w fun e w' => e = .returned (.tuple #[.string (bs (putL s off d).1), .int .i64 (putL s off d).2]) ∧ Fr No w w' := by
  have hsz : (bs s).size = s.length := bs_size s
  have hdz : (bs d).size = d.length := bs_size d
  by_cases h1 : off < 0
  · have hp : putL s off d = ([], 1) := by unfold putL; rw [if_pos h1]
    rw [hp]
    clear hp
    go_enter Tryd.func10, Tryd.ntmps10
    go_wp2_with fail
    go_ret2
    exact ⟨rfl, Fr.refl _ _⟩
  by_cases h2 : 4096 < off
  · have hp : putL s off d = ([], 3) := by unfold putL; rw [if_neg h1, if_pos h2]
    rw [hp]
    clear hp
    go_enter Tryd.func10, Tryd.ntmps10
    go_wp2_with fail
    go_ret2
    exact ⟨rfl, Fr.refl _ _⟩
  have h2' : off ≤ 4096 := by omega
  have h1' : 0 ≤ off := by omega
  by_cases h3 : 4096 - off < (d.length : Int)
  · have hp : putL s off d = ([], 3) := by unfold putL; rw [if_neg h1, if_neg h2, if_pos h3]
    have h3' : 4096 < off + (d.length : Int) := by omega
    rw [hp]
    clear hp h3
    go_enter Tryd.func10, Tryd.ntmps10
    go_wp2_with fail
    go_ret2
    exact ⟨rfl, Fr.refl _ _⟩
  have h3' : off + (d.length : Int) ≤ 4096 := by omega
  by_cases h4 : d = []
  · have hp : putL s off d = (s, 0) := by unfold putL; rw [if_neg h1, if_neg h2, if_neg h3, if_pos h4]
    rw [hp]
    subst h4
    clear hp
    go_enter Tryd.func10, Tryd.ntmps10
    go_wp2_with fail
    go_ret2
    exact ⟨rfl, Fr.refl _ _⟩
  obtain ⟨o, rfl⟩ := Int.eq_ofNat_of_zero_le h1'
  have hp : putL s (o : Int) d = (laid (upTo s (o + d.length)) o d d.length, 0) := by
    unfold putL
    rw [if_neg h1, if_neg h2, if_neg h3, if_neg h4, laid_all]
    rfl
  rw [hp]
  obtain ⟨U, hUU⟩ : ∃ U, U = upTo s (o + d.length) := ⟨_, rfl⟩
  rw [← hUU]
  have HUU := Kp.mk hUU
  clear hUU
  have h4' : d.isEmpty = false := by cases d with | nil => exact absurd rfl h4 | cons _ _ => rfl
  clear hp h1 h2 h3 h4
  go_enter Tryd.func10, Tryd.ntmps10
  go_wp2_with (((with_reducible refine gate_dst (N := 25) rfl ?_); refine ev_bts rfl 9 49 (.tmp 24) rfl s rfl 5 Tryd.underlying9 Tryd.underlying49 Tryd.underlying5 (by simp only [maxLen]; omega) ?_; intro g1 c1 w1 f1 b1))
  have F1 := Kp.mk f1
  have B1 := Kp.mk b1
  clear f1 b1
  go_loopg [8] (o + d.length - s.length) (fun kq v8 wr => ∃ (g c j N : Nat), kq + j = o + d.length - s.length ∧ N = s.length + j ∧ v8 = .slice (some ⟨g, 0, none⟩) N c ∧ Kp (Fr No w wr) ∧ Kp (Bts wr w.heap.size 5 g c (s ++ List.replicate j 0)))
  case atStart => exact ⟨g1, c1, 0, s.length, by omega, by omega, rfl, F1, ⟨by simpa using B1.out⟩⟩
  case round =>
    clear F1 B1
    obtain ⟨g, c, j, N, hk, hN, rfl, F, B⟩ := hrel
    by_cases hlt : N < o + d.length
    · have hltz : (N : Int) < (o : Int) + (d.length : Int) := by omega
      have HK := Kp.mk hk
      have HN := Kp.mk hN
      clear hk hN
      go_wp2_with (first
        | ((with_reducible refine gate_dst (N := 34) rfl ?_); refine ev_lit rfl 5 [.int .u8 0] 1 (by first | (go_simp; done) | (go_simp; rfl)) ?_; intro gl w5 hgl f5 bl)
        | ((with_reducible refine gate_dst (N := 35) rfl ?_); refine ev_nought rfl (.tmp 33) (.tmp 34) 49 5 rfl Tryd.underlying49 infoByte' w.heap.size g c (s ++ List.replicate j 0) N (by have := HN.out; simp; omega) rfl (B.out.no f5) (by have := F.out.size; have := f5.size; omega) gl 0 rfl bl (by have := HK.out; simp; omega) ?_; intro g2 c2 w6 B2 f6))
      go_roundg (gk - 1)
      case measure => have := HK.out; have := HN.out; omega
      case rel => exact ⟨g2, c2, j + 1, N + 1, by have := HK.out; have := HN.out; omega, by have := HN.out; omega, rfl, ⟨(F.out.no f5).one f6 (.inr B.out.lo)⟩, ⟨by rw [List.replicate_succ', ← List.append_assoc]; exact B2⟩⟩
    · have hltz : ¬ (N : Int) < (o : Int) + (d.length : Int) := by omega
      have hU : s ++ List.replicate j 0 = U := by rw [HUU.out]; unfold upTo; congr 2; omega
      rw [hU] at B
      have hul : U.length = max s.length (o + d.length) := by rw [HUU.out]; exact upTo_len s (o + d.length)
      have hodN : o + d.length ≤ N := by omega
      have hNl : N = U.length := by omega
      have HNL := Kp.mk hNl
      clear hk hN hltz hU hul hNl hlt
      go_wp2_with fail
      go_loopg [9] d.length (fun kq v9 wr2 => ∃ i : Nat, kq + i = d.length ∧ v9 = .int .i64 (i : Int) ∧ Kp (Fr No w wr2) ∧ Kp (Bts wr2 w.heap.size 5 g c (laid U o d i)))
      case atStart => exact ⟨0, by omega, rfl, F, ⟨by rw [laid_zero]; exact B.out⟩⟩
      case round =>
        clear F B
        obtain ⟨i, hk, rfl, F, B⟩ := hrel
        by_cases hid : i < d.length
        · have hidz : (i : Int) < (d.length : Int) := by omega
          obtain ⟨x, hx⟩ : ∃ x, d[i]? = some x := ⟨_, List.getElem?_eq_getElem hid⟩
          have ix := idx_any d i x hx
          have hb0 : (0 : Int) ≤ (o : Int) + (i : Int) := by omega
          have hb1 : (o : Int) + (i : Int) < (N : Int) := by omega
          have HLS := Kp.mk (laid_set U o d i x (by have := HNL.out; omega) hx)
          have HLL := Kp.mk (laid_len U o d i (by have := HNL.out; omega) (by omega))
          have HK := Kp.mk hk
          clear hk hx
          go_wp2_with (first
            | ((with_reducible refine gate_none rfl ?_); refine ev_btset rfl 5 (.tmp 49) (.tmp 48) rfl w.heap.size 5 g c (o + i) (laid U o d i) x rfl rfl B.out (by have := HLL.out; have := HNL.out; omega) (by kernel_rfl) ?_; intro w6 f6 B6))
          go_roundg (gk - 1)
          case measure => have := HK.out; omega
          case rel => exact ⟨i + 1, by have := HK.out; omega, by go_num, ⟨F.out.one f6 (.inr B.out.lo)⟩, ⟨by rw [← HLS.out]; exact B6⟩⟩
        · obtain rfl : i = d.length := by omega
          have hidz : ¬ (d.length : Int) < (d.length : Int) := by omega
          have HLL := Kp.mk (laid_len U o d d.length (by have := HNL.out; omega) (Nat.le_refl _))
          clear hk
          go_wp2_with (((with_reducible refine gate_dst (N := 51) rfl ?_); refine ev_btstr rfl 49 9 5 (.tmp 50) rfl Tryd.underlying49 Tryd.underlying5 Tryd.underlying9 w.heap.size 5 g c N (laid U o d d.length) (by rw [HLL.out]; exact HNL.out) rfl B.out ?_))
          go_ret2
          exact ⟨rfl, F.out⟩

set_option maxHeartbeats 4000000 in
set_option maxRecDepth 100000 in
theorem rcopy_any (s : List UInt8) (off : Int) (src : List UInt8) (fr n : Int) (hs : s.length ≤ 1073741824) (hd : src.length ≤ 1073741824) (hb : fr ≤ 9223372036854775807) (hn : n ≤ 9223372036854775807) (w : World) :
    Calls Tryd.prog 16 #[.string (bs s), .int .i64 off, .string (bs src), .int .i64 fr, .int .i64 n] w fun e w' => e = .returned (.tuple #[.string (bs (copyL s off src fr n).1), .int .i64 (copyL s off src fr n).2]) ∧ Fr No w w' := by
  have hsz : (bs s).size = s.length := bs_size s
  have hdz : (bs src).size = src.length := bs_size src
  have bad : copyL s off src fr n = ([], 1) → (fr < 0 ∨ n < 0 ∨ (src.length : Int) < fr ∨ (0 ≤ fr ∧ fr ≤ (src.length : Int) ∧ (src.length : Int) - fr < n)) → Calls Tryd.prog 16 #[.string (bs s), .int .i64 off, .string (bs src), .int .i64 fr, .int .i64 n] w fun e w' => e = .returned (.tuple #[.string (bs (copyL s off src fr n).1), .int .i64 (copyL s off src fr n).2]) ∧ Fr No w w' := by
    intro hp hc
    rw [hp]
    clear hp
    by_cases c1 : fr < 0
    · clear hb hn hc
      go_enter Tryd.func16, Tryd.ntmps16
      go_wp2_with fail
      go_ret2
      exact ⟨rfl, Fr.refl _ _⟩
    have c1' : 0 ≤ fr := by omega
    by_cases c2 : n < 0
    · clear hb hn c1 hc
      go_enter Tryd.func16, Tryd.ntmps16
      go_wp2_with fail
      go_ret2
      exact ⟨rfl, Fr.refl _ _⟩
    have c2' : 0 ≤ n := by omega
    by_cases c3 : (src.length : Int) < fr
    · clear hb hn c1 c2 hc
      go_enter Tryd.func16, Tryd.ntmps16
      go_wp2_with fail
      go_ret2
      exact ⟨rfl, Fr.refl _ _⟩
    have c3' : fr ≤ (src.length : Int) := by omega
    have c4 : (src.length : Int) - fr < n := by omega
    clear hb hn c1 c2 c3 hc
    go_enter Tryd.func16, Tryd.ntmps16
    go_wp2_with fail
    go_ret2
    exact ⟨rfl, Fr.refl _ _⟩
  by_cases c1 : fr < 0
  · exact bad (by unfold copyL; rw [if_pos c1]) (.inl c1)
  by_cases c2 : n < 0
  · exact bad (by unfold copyL; rw [if_neg c1, if_pos c2]) (.inr (.inl c2))
  by_cases c3 : (src.length : Int) < fr
  · exact bad (by unfold copyL; rw [if_neg c1, if_neg c2, if_pos c3]) (.inr (.inr (.inl c3)))
  by_cases c4 : (src.length : Int) - fr < n
  · exact bad (by unfold copyL; rw [if_neg c1, if_neg c2, if_neg c3, if_pos c4]) (.inr (.inr (.inr ⟨by omega, by omega, c4⟩)))
  have hp : copyL s off src fr n = putL s off ((src.drop fr.toNat).take n.toNat) := by unfold copyL; rw [if_neg c1, if_neg c2, if_neg c3, if_neg c4]
  rw [hp]
  obtain ⟨f, rfl⟩ := Int.eq_ofNat_of_zero_le (by omega : 0 ≤ fr)
  obtain ⟨m, rfl⟩ := Int.eq_ofNat_of_zero_le (by omega : 0 ≤ n)
  have hfm : f + m ≤ src.length := by omega
  have c3' : (f : Int) ≤ (src.length : Int) := by omega
  have c4' : (m : Int) ≤ (src.length : Int) - (f : Int) := by omega
  have c5 : (f : Int) ≤ (f : Int) + (m : Int) := by omega
  have c6 : (f : Int) + (m : Int) ≤ (src.length : Int) := by omega
  have c7 : (0 : Int) ≤ (f : Int) + (m : Int) := by omega
  have hD : (src.drop f).take m = (src.drop (Int.toNat (f : Int))).take (Int.toNat (m : Int)) := rfl
  rw [← hD]
  have he : (bs src).extract f (f + m) = bs ((src.drop f).take m) := by rw [ext_bs, Nat.add_sub_cancel_left]
  have CP := Kp.mk (rput_any s off ((src.drop f).take m) hs (by simp; omega))
  generalize putL s off ((src.drop f).take m) = R at CP ⊢
  generalize (src.drop f).take m = D at CP he
  clear hp bad hD c1 c2 c3 c4 hb hn
  go_enter Tryd.func16, Tryd.ntmps16
  go_wp2_with (go_at_call 10; refine (CP.out _).mono ?_; rintro e w2 ⟨rfl, f2⟩)
  go_ret2
  exact ⟨rfl, f2⟩
end Go.Proofs.YtaohfmmapammcaaDoor.Ch

/- The document's Trunc, Get, Texts, from their printed contracts. Conditions: sizes are bounded, as written out. -/
set_option linter.unusedSimpArgs false
set_option linter.unusedVariables false
namespace Go.Proofs.YtaohfmmapammcaaDoor.Ch
open Go Go.RowKit Go.Proofs.YtaohfmmapammcaaDoorW.PrintWords Go.Proofs.YtaohfmmapammcaaDoor.PChunkTells Go.Proofs.YtaohfmmapammcaaDoor.Sha Go.Proofs.YtaohfmmapammcaaDoor.Dig Go.Proofs.YtaohfmmapammcaaDoor.Ev

abbrev nz (l : List UInt8) : List Int := l.map fun b => (b.toNat : Int)
theorem nz_str (l : List UInt8) : strOfNums (nz l) = bs l := strOf_bytes l
theorem bt_at (l : List UInt8) (i : Nat) (x : UInt8) (h : l[i]? = some x) : bt (bs l) (i : Int) = (x.toNat : Int) := by
  obtain ⟨hl, rfl⟩ := List.getElem?_eq_some_iff.1 h
  have hs : i < (bs l).size := by rw [bs_size]; exact hl
  have e : ((bs l)[i]'hs) = l[i] := by
    show (bs l).data[i] = l[i]
    simp
  simp [bt, hs, e]

/-- What Trunc has behind i rounds. -/
def cutTo (s : List UInt8) (z i : Nat) : List UInt8 := s.take i ++ List.replicate (z - i) 0
theorem cutTo_set (s : List UInt8) (z i : Nat) (x : UInt8) (hz : i < z) (hx : s[i]? = some x) : (nz (cutTo s z i)).set i (x.toNat : Int) = nz (cutTo s z (i + 1)) := by
  obtain ⟨hi, _⟩ := List.getElem?_eq_some_iff.1 hx
  have h1 : (s.take i).length = i := by rw [List.length_take]; omega
  have : (cutTo s z i).set i x = cutTo s z (i + 1) := by
    unfold cutTo
    rw [List.set_append, if_neg (by omega), h1, Nat.sub_self, show z - i = (z - (i + 1)) + 1 by omega, List.replicate_succ, List.set_cons_zero, List.take_add_one, hx]
    simp
  rw [← this, nz, nz, List.map_set]
theorem cutTo_len (s : List UInt8) (z i : Nat) (hz : i ≤ z) (hi : i ≤ s.length) : (cutTo s z i).length = z := by simp [cutTo]; omega
theorem cutTo_fin (s : List UInt8) (z i : Nat) (hz : i ≤ z) (hi : i ≤ s.length) (h : i = z ∨ i = s.length) : cutTo s z i = (fullL s (z : Int)).take z := by
  unfold cutTo fullL zerosL
  rcases h with rfl | rfl
  · rw [Nat.sub_self, List.replicate_zero, List.append_nil, List.take_append_of_le_length hi]
  · rw [List.take_of_length_le (Nat.le_refl _), List.take_of_length_le (by simp; omega)]
    congr 2
    omega
theorem trunc_loop (s : List UInt8) (z : Nat) (hz : z ≤ 4096) (hs : s.length ≤ 1099511627776) : ∀ (m i k : Nat), m + i = z → m < k → i ≤ s.length → snapferryref06_Trunc.l0 k (bs s) (z : Int) (nz (cutTo s z i)) (i : Int) = some (bs ((fullL s (z : Int)).take z), 0) := by
  intro m
  induction m with
  | zero =>
    intro i k hi hk his
    obtain ⟨k, rfl⟩ : ∃ j, k = j + 1 := ⟨k - 1, by omega⟩
    simp only [snapferryref06_Trunc.l0]
    rw [if_neg (by omega), nz_str, cutTo_fin s z i (by omega) his (.inl (by omega))]
  | succ m ih =>
    intro i k hi hk his
    obtain ⟨k, rfl⟩ : ∃ j, k = j + 1 := ⟨k - 1, by omega⟩
    simp only [snapferryref06_Trunc.l0]
    rw [if_pos (by omega), bs_size]
    by_cases h : i < s.length
    · obtain ⟨x, hx⟩ : ∃ x, s[i]? = some x := ⟨_, List.getElem?_eq_getElem h⟩
      have hl : (nz (cutTo s z i)).length = z := by rw [nz, List.length_map, cutTo_len s z i (by omega) his]
      have w1 : wrap64 ((i : Int) + 1) = ((i + 1 : Nat) : Int) := by unfold wrap64; omega
      rw [if_pos (by omega), if_pos (by omega), if_pos (by rw [hl]; omega), bt_at s i x hx, w1, show ((i : Int)).toNat = i from rfl, cutTo_set s z i x (by omega) hx]
      exact ih (i + 1) k (by omega) (by omega) (by omega)
    · rw [if_neg (by omega), nz_str, cutTo_fin s z i (by omega) his (.inr (by omega))]
theorem rtrunc_any (s : List UInt8) (size : Int) (hs : s.length ≤ 1099511627776) (w : World) :
    Calls Tryd.prog 12 #[.string (bs s), .int .i64 size] w fun e w' => e = .returned (.tuple #[.string (bs (truncL s size).1), .int .i64 (truncL s size).2]) ∧ Fr No w w' := by
  refine (snapferryref06_Trunc.calls 5000 (bs s) size _ _ w ?_).mono fun e w' h => ⟨h.1, Fr.of_below h.2⟩
  unfold snapferryref06_Trunc.f truncL
  by_cases h1 : size < 0
  · rw [if_pos h1, if_pos h1]
  rw [if_neg h1, if_neg h1]
  by_cases h2 : 4096 < size
  · rw [if_pos (by omega), if_pos h2]
  rw [if_neg (by omega), if_neg h2, if_pos (by omega)]
  obtain ⟨z, rfl⟩ := Int.eq_ofNat_of_zero_le (by omega : 0 ≤ size)
  rw [if_pos (by omega)]
  have := trunc_loop s z (by omega) hs z 0 5000 (by omega) (by omega) (Nat.zero_le _)
  have e : nz (cutTo s z 0) = List.replicate z 0 := by simp [nz, cutTo]
  rw [e] at this
  exact this

theorem get_loop (s : List UInt8) (o n : Nat) (hs : s.length ≤ 1099511627776) (ho : o ≤ s.length) : ∀ (m i k : Nat), m + (o + i) = s.length → m < k → i ≤ n → snapferryref06_Get.l0 k (bs s) (o : Int) (n : Int) (nz ((s.drop o).take i)) ((o + i : Nat) : Int) = some (bs ((s.drop o).take n), 0) := by
  intro m
  induction m with
  | zero =>
    intro i k hi hk hin
    obtain ⟨k, rfl⟩ : ∃ j, k = j + 1 := ⟨k - 1, by omega⟩
    simp only [snapferryref06_Get.l0]
    rw [if_neg (by rw [bs_size]; omega), nz_str, List.take_of_length_le (by rw [List.length_drop]; omega), List.take_of_length_le (by rw [List.length_drop]; omega)]
  | succ m ih =>
    intro i k hi hk hin
    obtain ⟨k, rfl⟩ : ∃ j, k = j + 1 := ⟨k - 1, by omega⟩
    simp only [snapferryref06_Get.l0]
    rw [if_pos (by rw [bs_size]; omega)]
    have w0 : wrap64 (((o + i : Nat) : Int) - (o : Int)) = (i : Int) := by unfold wrap64; omega
    rw [w0]
    by_cases h : i < n
    · obtain ⟨x, hx⟩ : ∃ x, s[o + i]? = some x := ⟨_, List.getElem?_eq_getElem (by omega)⟩
      have w1 : wrap64 (((o + i : Nat) : Int) + 1) = ((o + (i + 1) : Nat) : Int) := by unfold wrap64; omega
      have e : nz ((s.drop o).take i) ++ [(x.toNat : Int)] = nz ((s.drop o).take (i + 1)) := by
        rw [List.take_add_one, List.getElem?_drop, hx]
        simp [nz]
      rw [if_pos (by omega), if_pos (by omega), if_pos (by rw [nz, List.length_map, List.length_take]; omega), bt_at s (o + i) x hx, w1, e]
      exact ih (i + 1) k (by omega) (by omega) (by omega)
    · rw [if_neg (by omega), nz_str, show i = n by omega]
theorem rget_any (s : List UInt8) (off n : Int) (hs : s.length ≤ 1099511627776) (w : World) :
    Calls Tryd.prog 14 #[.string (bs s), .int .i64 off, .int .i64 n] w fun e w' => e = .returned (.tuple #[.string (bs (getL s off n).1), .int .i64 (getL s off n).2]) ∧ Fr No w w' := by
  refine (snapferryref06_Get.calls (s.length + 10) (bs s) off n _ _ w ?_).mono fun e w' h => ⟨h.1, Fr.of_below h.2⟩
  unfold snapferryref06_Get.f getL
  by_cases h1 : off < 0
  · rw [if_pos h1, if_pos h1]
    simp only [snapferryref06_Get.j0]
    rfl
  rw [if_neg h1, if_neg h1]
  by_cases h2 : n < 0
  · rw [if_pos h2]
    simp only [snapferryref06_Get.j0]
    rw [if_pos (by simpa using h2)]
  rw [if_neg h2]
  simp only [snapferryref06_Get.j0]
  rw [if_neg (by simpa using h2)]
  obtain ⟨o, rfl⟩ := Int.eq_ofNat_of_zero_le (by omega : 0 ≤ off)
  obtain ⟨m, rfl⟩ := Int.eq_ofNat_of_zero_le (by omega : 0 ≤ n)
  have ho : (Int.toNat (o : Int)) = o := rfl
  have hm : (Int.toNat (m : Int)) = m := rfl
  rw [ho, hm]
  by_cases h : o ≤ s.length
  · have := get_loop s o m hs h (s.length - o) 0 (s.length + 9) (by omega) (by omega) (Nat.zero_le _)
    simpa using this
  · simp only [snapferryref06_Get.l0]
    rw [if_neg (by rw [bs_size]; omega), List.drop_of_length_le (by omega)]
    simp [strOfNums, bs]

theorem texts_loop (xs : List ByteArray) (hx : xs.length ≤ 1099511627776) : ∀ (m i k : Nat), m + i = xs.length → m < k → snapferryref06_Texts.l0 k xs xs (i : Int) = some true := by
  intro m
  induction m with
  | zero =>
    intro i k hi hk
    obtain ⟨k, rfl⟩ : ∃ j, k = j + 1 := ⟨k - 1, by omega⟩
    simp only [snapferryref06_Texts.l0]
    rw [if_neg (by omega)]
  | succ m ih =>
    intro i k hi hk
    obtain ⟨k, rfl⟩ : ∃ j, k = j + 1 := ⟨k - 1, by omega⟩
    have w1 : wrap64 ((i : Int) + 1) = ((i + 1 : Nat) : Int) := by unfold wrap64; omega
    simp only [snapferryref06_Texts.l0]
    rw [if_pos (by omega), if_pos (by omega), if_pos (by omega), if_pos trivial, w1]
    exact ih (i + 1) k (by omega) (by omega)
theorem Fr.of_drawn {w w' : World} (h : Drawn0 w w') : Fr No w w' := by
  obtain ⟨n, rfl⟩ := h
  exact (Fr.refl _ _).drewN n
theorem rtexts_any (A0 : Option Addr) (c0 : Nat) (A1 : Option Addr) (c1 n : Nat) (xs : List (List UInt8)) (hn : n = xs.length) (w : World) (h0 : Strs w A0 (xs.map bs)) (hc0 : n ≤ c0) (h1 : Strs w A1 (xs.map bs)) (hc1 : n ≤ c1) (hx : n ≤ 1099511627776) :
    Calls Tryd.prog 17 #[.slice A0 n c0, .slice A1 n c1] w fun e w' => e = .returned (.bool true) ∧ Fr No w w' := by
  subst hn
  have hl : (xs.map bs).length = xs.length := List.length_map ..
  have := snapferryref06_Texts.calls (xs.length + 10) A0 c0 (xs.map bs) A1 c1 (xs.map bs) true w h0 (by omega) h1 (by omega) (by
    unfold snapferryref06_Texts.f
    rw [if_pos rfl]
    exact texts_loop _ (by omega) xs.length 0 _ (by omega) (by omega))
  rw [hl] at this
  exact this.mono fun e w' h => ⟨h.1, Fr.of_drawn h.2⟩
end Go.Proofs.YtaohfmmapammcaaDoor.Ch

/- The law ChunkTells' own function: it returns true. No conditions but the input's sizes. -/
set_option linter.unusedSimpArgs false
set_option linter.unusedVariables false
namespace Go.Proofs.YtaohfmmapammcaaDoor.Ch
open Go Go.RowKit Go.Proofs.YtaohfmmapammcaaDoorW.PrintWords Go.Proofs.YtaohfmmapammcaaDoor.Reg Go.Proofs.YtaohfmmapammcaaDoor.Sha Go.Proofs.YtaohfmmapammcaaDoor.Dig Go.Proofs.YtaohfmmapammcaaDoor.Ev

/-- Rows of the same texts, of the call's own. -/
theorem same_texts (xs : List (List UInt8)) (N : Nat) (hn : N = xs.length) (hN : N ≤ 1099511627776) (b0 b1 : Nat) (A0 A1 : Option Addr) (c0 c1 : Nat) (w : World) (h0 : w.ownsRow b0 9 1 (.slice A0 N c0) N (vals xs)) (h1 : w.ownsRow b1 9 1 (.slice A1 N c1) N (vals xs)) :
    Calls Tryd.prog 17 #[.slice A0 N c0, .slice A1 N c1] w fun e w' => e = .returned (.bool true) ∧ Fr No w w' := by
  have hv : vals xs = (xs.map bs).map Value.string := by simp [vals]
  rw [hv] at h0 h1
  have hl : N = (xs.map bs).length := by simp [hn]
  obtain ⟨A, c, e0, k0, r0⟩ := own_strs h0 hl
  obtain ⟨A', c', e1, k1, r1⟩ := own_strs h1 hl
  injection e0 with e01 e02 e03
  injection e1 with e11 e12 e13
  subst e01 e03 e11 e13
  exact rtexts_any _ _ _ _ N xs hn w r0 (by omega) r1 (by omega) hN

set_option maxHeartbeats 16000000 in
set_option maxRecDepth 100000 in
theorem tells_any (s : List UInt8) (off : Int) (d : List UInt8) (fr n : Int) (ho : off ≤ 9223372036854775807) (hfr : fr ≤ 9223372036854775807) (hn : n ≤ 9223372036854775807) (w : World) :
    Calls Tryd.prog 3 #[.string (bs s), .int .i64 off, .string (bs d), .int .i64 fr, .int .i64 n] w fun e w' => e = .returned (.bool true) ∧ Fr No w w' := by
  have hss : (bs s).size = s.length := bs_size s
  have hsd : (bs d).size = d.length := bs_size d
  have CA : Kp (∀ W, Calls Tryd.prog 8 #[] W fun e w' => e = .returned (.bool true) ∧ Fr No W w') := ⟨awake_any⟩
  by_cases c1 : s.length ≤ 4096
  · have c1z : (s.length : Int) ≤ 4096 := by omega
    by_cases c2 : d.length ≤ 5000
    · have c2z : (d.length : Int) ≤ 5000 := by omega
      have CP := Kp.mk (put_any s off d (by omega) (by omega))
      have RP := Kp.mk (rput_any s off d (by omega) (by omega))
      generalize putL s off d = p at CP RP
      have CT := Kp.mk (trunc_any s off (by omega))
      have RT := Kp.mk (rtrunc_any s off (by omega))
      generalize truncL s off = t at CT RT
      have CG := Kp.mk (get_any s off n (by omega) ho hn)
      have RG := Kp.mk (rget_any s off n (by omega))
      generalize getL s off n = g at CG RG
      have CC := Kp.mk (copy_chunk_any s off d fr n (by omega) (by omega) hfr hn)
      have RC := Kp.mk (rcopy_any s off d fr n (by omega) (by omega) hfr hn)
      generalize copyL s off d fr n = k at CC RC
      have hnl : (namesL s).length = (cutL s).length := namesL_len s
      have hcl : (cutL s).length ≤ 1099511627776 := by rw [cutZ_len]; unfold cutN; omega
      have CCut : Kp (∀ W, Calls Tryd.prog 18 #[.string (bs s)] W fun e W' => ∃ A c, e = .returned (.slice A (cutL s).length c) ∧ W'.ownsRow W.heap.size 9 1 (.slice A (cutL s).length c) (cutL s).length (vals (cutL s)) ∧ Fr No W W') := ⟨fun W => (cut_any s (by omega) W).mono fun e W' ⟨v, he, ho, hb⟩ => by
        obtain ⟨A, c, rfl⟩ := own_slice ho
        exact ⟨A, c, he, ho, Fr.of_below hb⟩⟩
      have RCut := Kp.mk (rcut_any s (by omega))
      have CNam : Kp (∀ W, Calls Tryd.prog 20 #[.string (bs s)] W fun e W' => ∃ A c, e = .returned (.slice A (namesL s).length c) ∧ W'.ownsRow W.heap.size 9 1 (.slice A (namesL s).length c) (namesL s).length (vals (namesL s)) ∧ Fr No W W') := ⟨fun W => (names_any s (by omega) W).mono fun e W' ⟨v, he, ho, hb⟩ => by
        obtain ⟨A, c, rfl⟩ := own_slice ho
        exact ⟨A, c, he, ho, hb⟩⟩
      have RNam := Kp.mk (rnames_any s (by omega))
      rw [hnl] at CNam RNam
      obtain ⟨N, hN⟩ : ∃ N, N = (cutL s).length := ⟨_, rfl⟩
      rw [← hN] at CCut RCut CNam RNam hcl hnl
      have T1 := Kp.mk (same_texts (cutL s) N hN hcl)
      have T2 := Kp.mk (same_texts (namesL s) N hnl.symm hcl)
      clear hnl hN ho hfr hn
      generalize cutL s = X at CCut RCut T1
      generalize namesL s = Y at CNam RNam T2
      go_enter Tryd.func3, Tryd.ntmps3
      go_wp2_with (first
        | (go_at_call 8; refine (CA.out _).mono ?_; rintro e w1 ⟨rfl, f1⟩)
        | (go_at_call 9; refine (CP.out _).mono ?_; rintro e w2 ⟨rfl, f2⟩)
        | (go_at_call 10; refine (RP.out _).mono ?_; rintro e w3 ⟨rfl, f3⟩)
        | (go_at_call 11; refine (CT.out _).mono ?_; rintro e w4 ⟨rfl, f4⟩)
        | (go_at_call 12; refine (RT.out _).mono ?_; rintro e w5 ⟨rfl, f5⟩)
        | (go_at_call 13; refine (CG.out _).mono ?_; rintro e w6 ⟨rfl, f6⟩)
        | (go_at_call 14; refine (RG.out _).mono ?_; rintro e w7 ⟨rfl, f7⟩)
        | (go_at_call 15; refine (CC.out _).mono ?_; rintro e w8 ⟨rfl, f8⟩)
        | (go_at_call 16; refine (RC.out _).mono ?_; rintro e w9 ⟨rfl, f9⟩)
        | (go_at_call 18; refine (CCut.out _).mono ?_; rintro e w10 ⟨A0, k0, rfl, o10, f10⟩)
        | (go_at_call 19; refine (RCut.out _).mono ?_; rintro e w11 ⟨A1, k1, rfl, o11, f11⟩)
        | (go_at_call 17; refine (T2.out _ _ A2 A3 k2 k3 _ (own_no o13 f14) o14).mono ?_; rintro e w15 ⟨rfl, f15⟩)
        | (go_at_call 20; refine (CNam.out _).mono ?_; rintro e w13 ⟨A2, k2, rfl, o13, f13⟩)
        | (go_at_call 21; refine (RNam.out _).mono ?_; rintro e w14 ⟨A3, k3, rfl, o14, f14⟩)
        | (go_at_call 17; refine (T1.out _ _ A0 A1 k0 k1 _ (own_no o10 f11) o11).mono ?_; rintro e w12 ⟨rfl, f12⟩))
      go_ret
      exact ⟨rfl, (((((((((((((f1.no f2).no f3).no f4).no f5).no f6).no f7).no f8).no f9).no f10).no f11).no f12).no f13).no f14).no f15⟩
    · have c2z : (5000 : Int) < (d.length : Int) := by omega
      clear c2 ho hfr hn
      go_enter Tryd.func3, Tryd.ntmps3
      go_wp2_with (go_at_call 8; refine (CA.out _).mono ?_; rintro e w1 ⟨rfl, f1⟩)
      go_ret
      exact ⟨rfl, f1⟩
  · have c1z : (4096 : Int) < (s.length : Int) := by omega
    clear c1 ho hfr hn
    go_enter Tryd.func3, Tryd.ntmps3
    go_wp2_with (go_at_call 8; refine (CA.out _).mono ?_; rintro e w1 ⟨rfl, f1⟩)
    go_ret
    exact ⟨rfl, f1⟩
end Go.Proofs.YtaohfmmapammcaaDoor.Ch

/- What the chunk laws' cards share: a witness, bounds, five arguments. No conditions beside those written out. -/
set_option linter.unusedSimpArgs false
set_option linter.unusedVariables false
namespace Go.Proofs.YtaohfmmapammcaaDoor
open Go.ChangeShapes Go.WideShapes Go.ChangeAt Go.RowKit

theorem Tryd.own : ownKnob Tryd.prog.godebug = none := by kernel_rfl
theorem Tryd.laidOut : laidOutB Tryd.prog = true := by kernel_rfl
/-- An input that fits, at a world that is written out. -/
theorem witness_row {H : Type} {enc : TypeId × Value → H} {C : Checked} {os : Os} {f : FuncId} {fn : Func} {s : OpenSpec} {conds : List PathCond} {apart : Bool} {laid : List (String × DataW Unit)} (modest : Bool) (w0 : World) (args : Array Value) (hos : w0.os = os)
    (hsh : (w0.forCall (fun _ _ => 0) ⟨#[], args, []⟩).Shaped C.prog)
    (hok : Input.okWideB C.prog (w0.forCall (fun _ _ => 0) ⟨#[], args, []⟩) f ⟨#[], args, []⟩ = true)
    (hrow : s.preRow enc C.prog fn conds apart laid (w0.forCall (fun _ _ => 0) ⟨#[], args, []⟩).memory args) :
    ∃ (w : World) (tape : Tape) (i : Input), w.os = os ∧ (w.forCall tape i).Shaped C.prog ∧ i.vars = [] ∧ Input.okWide C.prog (w.forCall tape i) .any w.heap.size f i ∧
      s.preRow enc C.prog fn conds apart laid (w.forCall tape i).memory i.args ∧ ({ modest := modest } : Assume).holds C.prog (lone (Frame.enter C.prog f i.args .normal) [] (w.forCall tape i)) :=
  ⟨w0, fun _ _ => 0, ⟨#[], args, []⟩, hos, hsh, (Input.okWide_of_okWideB (base := 0) hok).1, (Input.okWide_of_okWideB hok).2, hrow, by
    simp only [Assume.holds]
    exact ⟨by simp, by simp, fun _ => Modest.zero, by simp, by simp⟩⟩
theorem int_bounds {a : Int} (h : (Lit.int .i64 a).wf = true) : -9223372036854775808 ≤ a ∧ a ≤ 9223372036854775807 := by
  have h1 : IntKind.i64.min = -9223372036854775808 := rfl
  have h2 : IntKind.i64.max = 9223372036854775807 := rfl
  simp only [Lit.wf, Bool.and_eq_true, decide_eq_true_eq] at h
  omega
end Go.Proofs.YtaohfmmapammcaaDoor

/- Five arguments that came in, and handed back. No conditions beside those written out. -/
set_option linter.unusedSimpArgs false
set_option linter.unusedVariables false
namespace Go.Proofs.YtaohfmmapammcaaDoor
open Go.ChangeShapes Go.WideShapes Go.ChangeAt Go.RowKit
section
variable {H : Type} {enc : TypeId × Value → H} {P : Program} {w : World} {base : Nat} {spare : Nat → Bool} {held : Bool}
theorem trodAll_five' {t0 t1 t2 t3 t4 : TypeId} {args : Array Value} {ds : List (DataW H)} {ps : List MemPlace} (h : DataW.TrodAll enc P w base spare held [t0, t1, t2, t3, t4] args.toList ds ps) :
    ∃ v0 v1 v2 v3 v4 d0 d1 d2 d3 d4 p0 p1 p2 p3 p4, args = #[v0, v1, v2, v3, v4] ∧ ds = [d0, d1, d2, d3, d4] ∧ ps = p0 ++ (p1 ++ (p2 ++ (p3 ++ p4))) ∧ DataW.Trod enc P w base spare held t0 v0 d0 p0 ∧ DataW.Trod enc P w base spare held t1 v1 d1 p1 ∧ DataW.Trod enc P w base spare held t2 v2 d2 p2 ∧ DataW.Trod enc P w base spare held t3 v3 d3 p3 ∧ DataW.Trod enc P w base spare held t4 v4 d4 p4 := by
  obtain ⟨v0, vs0, d0, ds0, p0, q0, hargs, rfl, rfl, h0, r0⟩ := trodAll_cons h
  obtain ⟨v1, v2, v3, v4, d1, d2, d3, d4, p1, p2, p3, p4, h1, rfl, rfl, k1, k2, k3, k4⟩ := trodAll_four (args := vs0.toArray) (by simpa using r0)
  refine ⟨v0, v1, v2, v3, v4, d0, d1, d2, d3, d4, p0, p1, p2, p3, p4, ?_, rfl, by simp, h0, k1, k2, k3, k4⟩
  have h2 : vs0 = [v1, v2, v3, v4] := by simpa using congrArg Array.toList h1
  rw [h2] at hargs
  cases args
  simp_all
theorem trodAll_mk5' {t0 t1 t2 t3 t4 : TypeId} {v0 v1 v2 v3 v4 : Value} {d0 d1 d2 d3 d4 : DataW H} {p0 p1 p2 p3 p4 : List MemPlace} (h0 : DataW.Trod enc P w base spare held t0 v0 d0 p0) (h1 : DataW.Trod enc P w base spare held t1 v1 d1 p1)
    (h2 : DataW.Trod enc P w base spare held t2 v2 d2 p2) (h3 : DataW.Trod enc P w base spare held t3 v3 d3 p3) (h4 : DataW.Trod enc P w base spare held t4 v4 d4 p4) :
    DataW.TrodAll enc P w base spare held [t0, t1, t2, t3, t4] [v0, v1, v2, v3, v4] [d0, d1, d2, d3, d4] (p0 ++ (p1 ++ (p2 ++ (p3 ++ p4)))) :=
  ⟨p0, _, h0, trodAll_mk4 h1 h2 h3 h4, rfl⟩
end
end Go.Proofs.YtaohfmmapammcaaDoor

/- The card ChunkTells: the row of the law, its listed variables tied to the program's text. No conditions beside the statement's own. -/
set_option linter.unusedSimpArgs false
set_option linter.unusedVariables false
namespace Go.Proofs.YtaohfmmapammcaaDoor
open Go.ChangeShapes Go.WideShapes Go.ChangeAt Go.RowKit

set_option maxRecDepth 100000 in
theorem chunkTells_lifted (os : Os) (started : os.Started) (H : Type) (enc : TypeId × Value → H) (F : Stop.Interp) :
    ReturnsInHanded {} Tryd.checked os 3 .any ((OpenSpec.ofChange Rows.chunkTellsSpec).preRow enc Tryd.prog Tryd.f3 Rows.chunkTellsRow.domain false Rows.chunkTellsRow.laid) (((OpenSpec.ofChange Rows.chunkTellsSpec).at F).post enc Tryd.prog Tryd.f3 false true false false) := by
  have hx : ∃ places, DataW.whole enc Tryd.prog ((World.laidAll Tryd.prog os Rows.chunkTellsRow.laid).forCall (fun _ _ => 0) ⟨#[], #[.string ⟨#[]⟩, .int .i64 0, .string ⟨#[]⟩, .int .i64 0, .int .i64 0], []⟩).memory Tryd.f3.params.toList Rows.chunkTellsSpec.vars false #[Value.string ⟨#[]⟩, .int .i64 0, .string ⟨#[]⟩, .int .i64 0, .int .i64 0].toList 8 = some ([.lit (.string []), .lit (.int .i64 0), .lit (.string []), .lit (.int .i64 0), .lit (.int .i64 0)], [], places) := ⟨[], by kernel_rfl⟩
  obtain ⟨places, hx⟩ := hx
  refine returnsInHanded_of_row (C := Tryd.checked) (s := OpenSpec.ofChange Rows.chunkTellsSpec) Tryd.own started (by kernel_rfl) Tryd.func3
    (witness_row (enc := enc) (C := Tryd.checked) false (World.laidAll Tryd.prog os Rows.chunkTellsRow.laid) #[.string ⟨#[]⟩, .int .i64 0, .string ⟨#[]⟩, .int .i64 0, .int .i64 0] (World.laidAll_os _ _ _) (World.shaped_of_ZipB (by kernel_rfl) (by kernel_rfl)) (by kernel_rfl)
      (OpenSpec.preRow_of_cond 8 hx (by kernel_rfl) (fun k hk => by cases hk) (by kernel_rfl) (by rw [MakeChecks.laidMetH_plain _ _ _ (by kernel_rfl)]; exact laidMet_laidAll _ (by kernel_rfl) (by kernel_rfl)))) ?_
  intro W base args ds gs before hval0 hW _ _ hsz0 _ _ _
  have hszz : (DataW.weightsEach Tryd.prog (Tryd.f3.params.toList ++ Rows.chunkTellsSpec.plain.varTypes Tryd.prog) (ds ++ gs)).all (· ≤ reachBytes) = true := hsz0
  clear hsz0
  have hval : ∀ (j : Nat) t v, Tryd.f3.params[j]? = some t → args[j]? = some v → Value.okWide Tryd.prog W .any base t v := hval0
  have hW' := hW
  obtain ⟨p, q, hA0, hV, rfl, _, _⟩ := hW
  have hA : DataW.TrodAll enc Tryd.prog W 0 (fun _ => true) true Tryd.f3.params.toList args.toList ds p := hA0
  rw [Tryd.params3] at hA hval hszz
  obtain ⟨v0, v1, v2, v3, v4, d0, d1, d2, d3, d4, p0, p1, p2, p3, p4, rfl, rfl, rfl, h0, h1, h2, h3, h4⟩ := trodAll_five' hA
  obtain ⟨rfl, rfl⟩ := trodVars_none hV
  obtain ⟨a0, rfl, rfl, rfl, b0⟩ := Go.ChangeMaps.open_string Tryd.underlying9 (hval 0 9 v0 rfl rfl) h0
  obtain ⟨a1, rfl, rfl, rfl, b1⟩ := open_int Tryd.underlying3 (hval 1 3 v1 rfl rfl) h1
  obtain ⟨a2, rfl, rfl, rfl, b2⟩ := Go.ChangeMaps.open_string Tryd.underlying9 (hval 2 9 v2 rfl rfl) h2
  obtain ⟨a3, rfl, rfl, rfl, b3⟩ := open_int Tryd.underlying3 (hval 3 3 v3 rfl rfl) h3
  obtain ⟨a4, rfl, rfl, rfl, b4⟩ := open_int Tryd.underlying3 (hval 4 3 v4 rfl rfl) h4
  have z0 := sized_string hszz (j := 0) (t := 9) rfl rfl
  have z1 := int_bounds b1
  have z2 := sized_string hszz (j := 2) (t := 9) rfl rfl
  have z3 := int_bounds b3
  have z4 := int_bounds b4
  have hrb : reachBytes < 2 ^ 47 := reachBytes_lt
  simp only [List.append_nil] at hW'
  refine (Ch.tells_any a0.data.toList a1 a2.data.toList a3 a4 z1.2 z3.2 z4.2 W).mono fun e W' ⟨he, hf⟩ => ?_
  subst he
  have hnx := hf.below
  refine ⟨_, rfl, _, _, _, [], [] ++ ([] ++ ([] ++ ([] ++ []))), [], hW', ?_, trodAll_mk5' (Go.ChangeMaps.shut_string Tryd.underlying9 b0) (shut_int Tryd.underlying3 b1) (Go.ChangeMaps.shut_string Tryd.underlying9 b2) (shut_int Tryd.underlying3 b3) (shut_int Tryd.underlying3 b4), rfl, hnx.frame _, fun h => by cases h⟩
  exact trodAll_mk1 (shut_bool Tryd.underlying4 true)

theorem chunkTells_said : Rows.ChunkTellsSaid :=
  OpenClaim.holds_of_cond 3 Tryd.f3 rfl rfl rfl rfl rfl rfl rfl ⟨rfl, rfl, rfl, rfl, rfl⟩ rfl rfl rfl rfl rfl (by kernel_rfl) Tryd.func3 (by kernel_rfl)
    (of_decide_eq_true (by kernel_rfl)) (by unfold Func.isWrapper; first | (rw [if_pos (by decide +kernel)]; kernel_rfl) | (rw [if_neg (by decide +kernel)]; exact ⟨rfl, rfl⟩))
    (fun os started H enc _ F => by rw [OpenClaim.pre_eq_preRow]; exact chunkTells_lifted os started H enc F)

theorem chunkTells_plain (f : FuncId) (fn : Func) (hf : Tryd.pinned.checked.prog.funcNamed "snapferry/snapferrylaw06.ChunkTells" = some f) (hfn : Tryd.pinned.checked.prog.funcs[f]? = some fn) :
    false = Tryd.pinned.checked.prog.looks [] ∧ ∀ (j : Nat) t, fn.params[j]? = some t → Tryd.pinned.checked.prog.wantsStandIn t = false := by
  obtain rfl : f = 3 := Option.some.inj ((show Tryd.prog.funcNamed "snapferry/snapferrylaw06.ChunkTells" = some 3 by kernel_rfl).symm.trans hf) |>.symm
  obtain rfl : fn = Tryd.f3 := (Option.some.inj (Tryd.func3.symm.trans hfn)).symm
  refine ⟨by kernel_rfl, fun j t ht => ?_⟩
  rw [Tryd.params3] at ht
  have hm : t ∈ [9, 3, 9, 3, 3] := by simpa using Array.mem_of_getElem? ht
  have hall : ([9, 3, 9, 3, 3].all fun u => !Tryd.prog.wantsStandIn u) = true := by kernel_rfl
  exact (show Tryd.prog.wantsStandIn t = false by simpa using List.all_eq_true.1 hall t hm)

theorem chunkTells_card : Rows.ChunkTellsCardSaid :=
  Claim7.holds_tied_plain_at .later [] _ _ _ _ chunkTells_said (fun _ h => by cases h) (by kernel_rfl) (fun _ h => by cases h) chunkTells_row_tie rfl ⟨rfl, rfl⟩ (by kernel_rfl) rfl chunkTells_plain (by kernel_rfl)
end Go.Proofs.YtaohfmmapammcaaDoor
