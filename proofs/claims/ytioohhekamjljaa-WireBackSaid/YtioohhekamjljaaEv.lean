/- Blocks of cells, what a step leaves of a world, and the steps that make or write a block, for a walk. No conditions beside those written out. -/
import Derived.WalkKit
import Derived.Laws.Tables
import Derived.Laws.Rows
import Derived.Deep.Draws
import Derived.Lib.ConvBytes
import Derived.Test.YtioohhekamjljaaSha
set_option linter.unusedSimpArgs false
set_option linter.unusedVariables false
namespace Go.Proofs.Ytioohhekamjljaa.Ev
open Go Go.RowKit Go.Proofs.Ytioohhekamjljaa.Sha

/-- A fact laid aside: no tactic looks into it. -/
structure Kp (p : Prop) : Prop where mk :: (out : p)

/-- From w to w' only the blocks of S have turned, and there are new ones. -/
structure Fr (S : Nat → Prop) (w w' : World) : Prop where
  os : w'.os = w.os
  tape : w'.tape = w.tape
  output : w'.output = w.output
  size : w.heap.size ≤ w'.heap.size
  keep : ∀ k, k < w.heap.size → ¬ S k → w'.heap[k]? = w.heap[k]?

def No : Nat → Prop := fun _ => False
def One (g : Nat) : Nat → Prop := fun k => k = g
def Two (g h : Nat) : Nat → Prop := fun k => k = g ∨ k = h

section
variable {S S1 S2 : Nat → Prop} {w w1 w2 : World}
theorem Fr.refl (S : Nat → Prop) (w : World) : Fr S w w := ⟨rfl, rfl, rfl, Nat.le_refl _, fun _ _ _ => rfl⟩
theorem Fr.trans (h : Fr S w w1) (k : Fr S1 w1 w2) (hs : ∀ i, S1 i → S i ∨ w.heap.size ≤ i) : Fr S w w2 :=
  ⟨k.os.trans h.os, k.tape.trans h.tape, k.output.trans h.output, Nat.le_trans h.size k.size, fun i hi hn =>
    (k.keep i (Nat.lt_of_lt_of_le hi h.size) (fun hs1 => (hs i hs1).elim hn (fun h1 => by omega))).trans (h.keep i hi hn)⟩
theorem Fr.mono (h : Fr S w w1) (hs : ∀ i, S i → S1 i ∨ w.heap.size ≤ i) : Fr S1 w w1 := (Fr.refl S1 w).trans h hs
theorem Fr.drew (h : Fr S w w1) : Fr S w w1.drew := ⟨h.os, h.tape, h.output, h.size, h.keep⟩
theorem Fr.drewN (h : Fr S w w1) (n : Nat) : Fr S w (w1.drewN n) := ⟨h.os, h.tape, h.output, h.size, h.keep⟩
theorem Fr.no (h : Fr S w w1) (k : Fr No w1 w2) : Fr S w w2 := h.trans k (fun _ h => h.elim)
theorem Fr.one {g : Nat} (h : Fr S w w1) (k : Fr (One g) w1 w2) (hg : S g ∨ w.heap.size ≤ g) : Fr S w w2 := h.trans k (fun i h => by cases h; exact hg)
theorem Fr.of_below (h : Below w.heap.size w w1) : Fr No w w1 := ⟨h.os, h.tape, h.output, h.size, fun i hi _ => h.block i hi⟩
theorem Fr.below (h : Fr No w w1) : Below w.heap.size w w1 := ⟨h.os, h.tape, h.output, h.size, fun i hi => h.keep i hi (fun hh => hh)⟩
theorem Fr.alloc (w : World) (o : Obj) : Fr No w (w.alloc o) := Fr.of_below ((Below.refl _ _).alloc (Nat.le_refl _) _)
theorem Fr.setCell (w : World) (g i : Nat) (v : Value) : Fr (One g) w (w.setCell ⟨g, i, none⟩ v) :=
  ⟨rfl, rfl, rfl, by simp [World.setCell], fun k _ hn => Below.heap_setCell _ _ _ _ hn⟩
theorem Fr.setRow (w : World) (g : Nat) (cs : Array Value) : Fr (One g) w (w.setRow g cs) :=
  ⟨rfl, rfl, rfl, by simp, fun k _ hn => setRow_other w g k cs (fun e => hn (show k = g from e))⟩
theorem Fr.obj {o : Obj} {g : Nat} (h : w.heap[g]? = some o) (f : Fr S w w1) (hn : ¬ S g) : w1.heap[g]? = some o :=
  (f.keep g (Array.getElem?_eq_some_iff.1 h).1 hn).trans h
end

theorem Fr.cell {S : Nat → Prop} {w w1 : World} {a : Addr} {v : Value} (h : w.cell? a = some v) (f : Fr S w w1) (hn : ¬ S a.block) : w1.cell? a = some v :=
  (World.cell?_of_block (f.keep a.block (World.block_lt_of_cell? w a h) hn)).trans h

/-- Block g holds these cells, none of them frozen. (A structure: so that no tactic looks into it.) -/
structure Blk (w : World) (g : Nat) (t : TypeId) (cs : List Value) : Prop where mk :: (out : w.heap[g]? = some (.cells cs.toArray t (0, 0)))

section
variable {S : Nat → Prop} {w w1 : World} {g : Nat} {t : TypeId} {cs : List Value}
theorem Blk.lt (h : Blk w g t cs) : g < w.heap.size := (Array.getElem?_eq_some_iff.1 h.out).1
theorem Blk.keep (h : Blk w g t cs) (f : Fr S w w1) (hn : ¬ S g) : Blk w1 g t cs := ⟨Fr.obj h.out f hn⟩
theorem Blk.no (h : Blk w g t cs) (f : Fr No w w1) : Blk w1 g t cs := h.keep f (fun hh => hh)
theorem Blk.one {k : Nat} (h : Blk w g t cs) (f : Fr (One k) w w1) (hn : g ≠ k) : Blk w1 g t cs := h.keep f hn
theorem Blk.drewN (h : Blk w g t cs) (n : Nat) : Blk (w.drewN n) g t cs := ⟨h.out⟩
theorem Blk.cell (h : Blk w g t cs) (i : Nat) : w.cell? ⟨g, i, none⟩ = cs[i]? := by
  rw [cell_of_row w g i _ t (0, 0) h.out]; simp
theorem Blk.at_ (h : Blk w g t cs) (i : Nat) {v : Value} (hv : cs[i]? = some v) : w.cell? ⟨g, i, none⟩ = some v := (h.cell i).trans hv
theorem Blk.free (h : Blk w g t cs) (i : Nat) : w.frozen? ⟨g, i, none⟩ = false := by
  simp [World.frozen?, h.out]
theorem Blk.ne {t' : TypeId} {g' : Nat} {cs' : List Value} (h : Blk w g t cs) (h' : Blk w g' t' cs') (hn : t ≠ t') : g ≠ g' := by
  rintro rfl
  have h1 := h'.out
  rw [h.out] at h1
  injection h1 with h1
  injection h1 with _ h1
  exact hn h1
theorem Blk.new (w : World) (t : TypeId) (cs : List Value) : Blk (w.alloc (.cells cs.toArray t (0, 0))) w.heap.size t cs := ⟨heap_alloc_new w _⟩
theorem Blk.set (h : Blk w g t cs) (i : Nat) (v : Value) : Blk (w.setCell ⟨g, i, none⟩ v) g t (cs.set i v) := by
  constructor
  rw [heap_setCell_same w g i _ t v h.out]
  simp
theorem Blk.row (h : Blk w g t cs) (cs' : List Value) : Blk (w.setRow g cs'.toArray) g t cs' := by
  exact ⟨setRow_heap w g _ _ t _ h.out⟩
end

section
variable {P : Program} {ops : Array Oper} {rest : List Oper} {o : Oper} {a : Act} {Q : Exit → Act → World → Prop} {W : World}

theorem run_value {w1 : World} {v : Value} (hgd : o.guard = none) (hrun : (execOp a.eval o).run P W = .ok (.value v) w1) (h : wpList P ops Q rest (a.put o.dst v) w1) : wpList P ops Q (o :: rest) a W := by
  refine wpList_plain hgd fun K hK => ?_
  unfold Oper.wp
  rw [hrun]
  exact hK _ _ h
theorem run_skip {w1 : World} (hgd : o.guard = none) (hrun : (execOp a.eval o).run P W = .ok .skip w1) (h : wpList P ops Q rest (a.put o.dst undef) w1) : wpList P ops Q (o :: rest) a W := by
  refine wpList_plain hgd fun K hK => ?_
  unfold Oper.wp
  rw [hrun]
  exact hK _ _ h

/-- 'var x T': a new block of T's zero cells. -/
theorem ev_alloc (hgd : o.guard = none) (t : TypeId) (ho : o.op = .alloc t) (z : Value) (zs : List Value) (hz : (P.info? t).bind (·.zero) = some z) (hzs : z.cells = zs.toArray)
    (h : ∀ g w1, W.heap.size ≤ g → Fr No W w1 → Blk w1 g t zs → wpList P ops Q rest (a.put o.dst (.pointer (some ⟨g, 0, none⟩))) w1) : wpList P ops Q (o :: rest) a W := by
  have hzr : (zeroValue t).run P W = .ok z W := by
    obtain ⟨i, hi, hiz⟩ := Option.bind_eq_some_iff.1 hz
    simp [zeroValue, typeInfo, hi, hiz]
  refine run_value hgd (w1 := W.alloc (.cells z.cells t (0, 0))) (v := .pointer (some ⟨W.heap.size, 0, none⟩)) ?_ (h _ _ (Nat.le_refl _) (Fr.alloc _ _) ?_)
  · simp [execOp, ho, Instr.alloc, hzr, newVar, newRow, Sem.run_bind, Result.andThen]
  · rw [hzs]; exact Blk.new W t zs

/-- '*p = v', v of several cells, the whole block. -/
theorem ev_store_row (hgd : o.guard = none) (ty : TypeId) (x y : Operand) (ho : o.op = .store ty x y) (g : Nat) (vs : Array Value) (hx : a.eval x = .pointer (some ⟨g, 0, none⟩)) (hy : a.eval y = .agg vs)
    (t : TypeId) (cs : List Value) (hb : Blk W g t cs) (hi : (P.info? ty).map (·.size) = some vs.size) (hl : cs.length = vs.size) (h1 : vs.all (·.oneCell') = true)
    (h : ∀ w1, Fr (One g) W w1 → Blk w1 g t vs.toList → wpList P ops Q rest (a.put o.dst undef) w1) : wpList P ops Q (o :: rest) a W :=
  wpList_store_row hgd ty x y ho g vs hx hy t cs.toArray hb.out hi (by simpa using hl) h1 (h _ (Fr.setRow _ _ _) (by simpa using hb.row vs.toList))

/-- 'p.f = v', 'x[i] = v', v of one cell. -/
theorem ev_store (hgd : o.guard = none) (ty : TypeId) (x y : Operand) (ho : o.op = .store ty x y) (g i : Nat) (v : Value) (hx : a.eval x = .pointer (some ⟨g, i, none⟩)) (hy : a.eval y = v) (hv : v.oneCell' = true)
    (t : TypeId) (cs : List Value) (hb : Blk W g t cs) (hil : i < cs.length) (hi : (P.info? ty).map (·.size) = some 1)
    (h : ∀ w1, Fr (One g) W w1 → Blk w1 g t (cs.set i v) → wpList P ops Q rest (a.put o.dst undef) w1) : wpList P ops Q (o :: rest) a W := by
  have hc : W.cell? ⟨g, i, none⟩ = some cs[i] := hb.at_ i (List.getElem?_eq_getElem hil)
  have hf := hb.free i
  have hsz : (sizeOf ty).run P W = .ok 1 W := by
    obtain ⟨q, hq, hq1⟩ := Option.map_eq_some_iff.1 hi
    simp [sizeOf, typeInfo, hq, hq1]
  have hadd : (⟨g, i, none⟩ : Addr).add 0 = ⟨g, i, none⟩ := by unfold Addr.add; split <;> simp_all
  have hcells : v.cells = #[v] := by
    cases v <;> first | rfl | (simp [Value.oneCell'] at hv)
  have hst : (store ⟨g, i, none⟩ v).run P W = .ok () (W.setCell ⟨g, i, none⟩ v) := by
    rw [run_store P W ⟨g, i, none⟩ v .plain hv]
    simp [hc, hf]
  refine run_skip hgd (w1 := W.setCell ⟨g, i, none⟩ v) ?_ (h _ (Fr.setCell _ _ _ _) (hb.set i v))
  simp [execOp, ho, hx, hy, Instr.storeAt, Instr.sureAddr, storeVar, hcells, hsz, storeCells, hadd, hst, Sem.run_bind, Result.andThen]

/-- A whole block read. -/
theorem ev_load_row (hgd : o.guard = none) (ty : TypeId) (x : Operand) (ho : o.op = .load ty x) (g : Nat) (hx : a.eval x = .pointer (some ⟨g, 0, none⟩)) (t : TypeId) (cs : List Value) (hb : Blk W g t cs) (d : TypeDesc)
    (hu : P.underlying ty = some d) (hd : (match d with | .struct _ | .array _ _ => true | _ => false) = true) (hi : (P.info? ty).map (·.size) = some cs.length)
    (h : wpList P ops Q rest (a.put o.dst (.agg cs.toArray)) W) : wpList P ops Q (o :: rest) a W :=
  wpList_load_row hgd ty x ho g hx t cs.toArray (0, 0) d hb.out hu hd (by simpa using hi) h

/-- '[]byte(s)': a new block with s's bytes. -/
theorem ev_bytes (hgd : o.guard = none) (src dst : TypeId) (x : Operand) (ho : o.op = .convert src dst x) (s : ByteArray) (hx : a.eval x = .string s) {u : TypeDesc} (e : TypeId)
    (hs : P.underlying src = some u) (hd : P.underlying dst = some (.slice e)) (he : P.underlying e = some (.int .u8))
    (h : ∀ g c w1, W.heap.size ≤ g → g < w1.heap.size → s.size ≤ c → Fr No W w1 → (∀ j, j < s.size → w1.cell? ⟨g, j, none⟩ = some (.int .u8 (bAt s j))) → wpList P ops Q rest (a.put o.dst (.slice (some ⟨g, 0, none⟩) s.size c)) w1) : wpList P ops Q (o :: rest) a W := by
  have hr := Lib.run_convert_string_bytes (P := P) W src dst e s hs hd he
  refine run_value hgd (w1 := Lib.bytesWorld W e s) (v := .slice (some ⟨W.heap.size, 0, none⟩) s.size (grownCap W s.size 0 e)) ?_ (h _ _ _ (Nat.le_refl _) (by rw [Lib.bytesWorld_size]; omega) (grownCap_ge W s.size 0 e)
    (Fr.of_below ⟨rfl, rfl, rfl, by rw [Lib.bytesWorld_size]; omega, fun i hi => Lib.bytesWorld_at_old W e s i (by omega)⟩) (fun j hj => ?_))
  · simp [execOp, ho, hx, hr, Sem.run_bind, Result.andThen]
  · rw [Lib.bytesWorld_cell W e s j hj]
    have h' : j < s.data.toList.length := by rw [data_size]; exact hj
    simp [bAt, List.getD_eq_getElem?_getD, List.getElem?_eq_getElem h']
end
end Go.Proofs.Ytioohhekamjljaa.Ev
