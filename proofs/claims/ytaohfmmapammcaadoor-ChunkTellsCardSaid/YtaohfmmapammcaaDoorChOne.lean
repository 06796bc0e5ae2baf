/- Texts joined by merge.py: Ev2, Ev3, ChPlain, ChIter, ChCut, ChFile, ChName, ChFillP. -/
import Derived.Test.YtaohfmmapammcaaDoorOwn
import Derived.Laws.CopyRow
import Derived.Lib.AppendZerosOnto
import Derived.Lib.AppendZeros
import Derived.Lib.Overlaps
import Derived.Deep.Quiet
import Derived.Test.YtaohfmmapammcaaDoorWLast
import Derived.Test.YtaohfmmapammcaaDoorShaSum
import Derived.RangeFuncBox
import Derived.RangeFuncLeaves
import Derived.Shelf.Abstract
import Derived.WalkKit
import Derived.OwnWalkIn
import Derived.TacticsInMore
import Derived.LoopNIn
import Derived.LoopIn
import Derived.Lib.SlBytesRow
import Derived.Sort.QuietIn
import Derived.Test.YtaohfmmapammcaaDoorEv
import Derived.Test.YtaohfmmapammcaaDoorSum
/- More steps of a walk: a boxed parameter, copy at any element size, appended noughts. No conditions beside those written out. -/
set_option linter.unusedSimpArgs false
set_option linter.unusedVariables false
namespace Go.Proofs.YtaohfmmapammcaaDoor.Ev
open Go Go.RowKit

section
variable {P : Program} {ops : Array Oper} {rest : List Oper} {o : Oper} {a : Act} {Q : Exit → Act → World → Prop} {W : World}
/-- A parameter put into a variable of its own. -/
theorem ev_box (hgd : o.guard = none) (t : TypeId) (x : Operand) (ho : o.op = .box t x) (v : Value) (hx : a.eval x = v) (cs : List Value) (hcs : v.cells = cs.toArray)
    (h : ∀ g w1, W.heap.size ≤ g → Fr No W w1 → Blk w1 g t cs → wpList P ops Q rest (a.put o.dst (.pointer (some ⟨g, 0, none⟩))) w1) : wpList P ops Q (o :: rest) a W := by
  refine run_value hgd (w1 := W.alloc (.cells v.cells t (0, 0))) (v := .pointer (some ⟨W.heap.size, 0, none⟩)) ?_ (h _ _ (Nat.le_refl _) (Fr.alloc _ _) ?_)
  · simp [execOp, ho, hx, Instr.box, newVar, newRow, Sem.run_bind, Result.andThen]
  · rw [hcs]; exact Blk.new W t cs

theorem run_copy_size (w : World) (dT sT ty elem : TypeId) (size g off dLen dCap : Nat) (ad : Addr) (sLen sCap : Nat) (cur : List Value) (t : TypeId) (cs : List Value)
    (hu : P.underlying dT = some (.slice elem)) (hs : (P.info? elem).map (·.size) = some size)
    (hb : Blk w g t cur) (hn : cs.length = Nat.min sLen dLen * size)
    (hsrc : ∀ j v, cs[j]? = some v → w.cell? (ad.add j) = some v) (hfit : off + cs.length ≤ cur.length) (h1 : ∀ v ∈ cs, v.oneCell' = true) :
    (Builtin.copy_ #[dT, sT] ty #[.slice (some ⟨g, off, none⟩) dLen dCap, .slice (some ad) sLen sCap]).run P w =
      .ok (goInt (Nat.min sLen dLen)) (w.setRow g (cur.take off ++ cs ++ cur.drop (off + cs.length)).toArray) := by
  have hl := run_loadCells_list (P := P) w ad cs hsrc
  have hst := run_storeCells_at P g off t cs 0 cur.toArray w hb.out (by simpa using hfit) h1
  cases hq : P.info? elem with
  | none => simp [hq] at hs
  | some i =>
    have hi : i.size = size := by simpa [hq] using hs
    simp [Builtin.copy_, run_underlying hu, Builtin.lenOf, Builtin.firstCells, sizeOf, typeInfo, hq, hi]
    rw [← hn, hl]
    simp [hst]

theorem ev_copy (hgd : o.guard = none) (d s : Operand) (dT sT : TypeId) (ho : o.op = .call { callee := .builtin .copy, args := #[d, s], argTypes := #[dT, sT] }) (e : TypeId) (size : Nat)
    (hu : P.underlying dT = some (.slice e)) (hsz : (P.info? e).map (·.size) = some size) (g off dLen dCap : Nat) (ad : Addr) (sLen sCap : Nat)
    (hd : a.eval d = .slice (some ⟨g, off, none⟩) dLen dCap) (hs : a.eval s = .slice (some ad) sLen sCap) (t : TypeId) (cur : List Value) (hb : Blk W g t cur) (cs : List Value) (hn : cs.length = Nat.min sLen dLen * size)
    (hsrc : ∀ j v, cs[j]? = some v → W.cell? (ad.add j) = some v) (hfit : off + cs.length ≤ cur.length) (h1 : ∀ v ∈ cs, v.oneCell' = true)
    (h : ∀ w1, Fr (One g) W w1 → Blk w1 g t (cur.take off ++ cs ++ cur.drop (off + cs.length)) → wpList P ops Q rest (a.put o.dst (.int .i64 (Nat.min sLen dLen : Nat))) w1) : wpList P ops Q (o :: rest) a W := by
  have hr := fun ty => run_copy_size (P := P) W dT sT ty e size g off dLen dCap ad sLen sCap cur t cs hu hsz hb hn hsrc hfit h1
  refine run_value hgd (w1 := W.setRow g (cur.take off ++ cs ++ cur.drop (off + cs.length)).toArray) (v := .int .i64 (Nat.min sLen dLen : Nat)) ?_ (h _ (Fr.setRow _ _ _) (hb.row _))
  simp [execOp, ho, resolve, invoke, builtin, Sem.run_bind, Sem.run_pure, Result.andThen_ok, hd, hs, hr, goInt]

theorem gate_none (_hN : o.dst = none) (h : wpList P ops Q (o :: rest) a W) : wpList P ops Q (o :: rest) a W := h

/-- 'append(s, make([]T, k)...)' where there is no room. -/
theorem ev_append_zeros (hgd : o.guard = none) (s x : Operand) (t tn e : TypeId) (ho : o.op = .call { callee := .builtin .append, args := #[s, x], argTypes := #[t, tn] }) (kn : IntKind)
    (ht : P.underlying t = some (.slice e)) (htn : P.underlying tn = some (.int kn)) (z : Value) (size bytes : Nat) (hinfo : (P.info? e).map (fun i => (i.zero, i.size, i.bytes)) = some (some z, size, bytes)) (hz : z.cells.size = size) (hsz : 0 < size)
    (ad : Addr) (n c k nk : Nat) (kz : Int) (kq : IntKind) (olds : List Value) (hs : a.eval s = .slice (some ad) n c) (hx : a.eval x = .int kq kz) (hkz : kz = k) (hnk : n + k = nk) (hol : olds.length = n * size) (hold : ∀ j u, olds[j]? = some u → W.cell? (ad.add j) = some u)
    (h0 : 0 < k) (hg : c < n + k) (hcn : n ≤ c) (hbytes : (n + k) * bytes ≤ 140737488355328) (hb0 : 0 < bytes)
    (h : ∀ g c' cur w1, W.heap.size ≤ g → n + k ≤ c' → c' ≤ 9223372036854775807 → Fr No W w1 → Blk w1 g e cur → cur.length = c' * size → cur.take (n * size) = olds → wpList P ops Q rest (a.put o.dst (.slice (some ⟨g, 0, none⟩) nk c')) w1) : wpList P ops Q (o :: rest) a W := by
  subst hkz hnk
  obtain ⟨i0, hi, hzz⟩ := Option.map_eq_some_iff.1 hinfo
  simp only [Prod.mk.injEq] at hzz
  obtain ⟨hz0, hz1, hz2⟩ := hzz
  have hnk : n + k ≤ 140737488355328 := Nat.le_trans (Nat.le_mul_of_pos_right _ hb0) hbytes
  have hfc : (Builtin.firstCells i0.size n (.slice (some ad) n c)).run P W.drew = .ok olds.toArray W.drew := by
    rw [hz1]
    exact run_firstCells_some W.drew size n ad n c olds hol (fun j v hj => by simpa using hold j v hj)
  have hkb : k * i0.bytes ≤ 281474976710656 := by
    have : k * bytes ≤ (n + k) * bytes := Nat.mul_le_mul_right _ (by omega)
    rw [hz2]; omega
  have hr := fun ty => Lib.run_append_grow_zeros (P := P) W t tn ty e i0 z kq kn ht htn hi hz0 (some ad) n c olds hfc k h0 (by rw [hz1]; exact hsz) hg (by omega) hkb (by rw [hz2]; exact growslice_fits hg hbytes)
  have hge := grownCap_ge W (n + k) c e
  have hgm : grownCap W (n + k) c e ≤ 9223372036854775807 := grownCap_le_maxLen W (n + k) c e (by simp only [maxLen]; omega)
  refine run_value hgd (w1 := W.drew.alloc (.cells (olds.toArray ++ Builtin.zeroCells z.cells k ++ Builtin.zeroCells z.cells (grownCap W (n + k) c e - (n + k))) e)) (v := .slice (some ⟨W.heap.size, 0, none⟩) (n + k) (grownCap W (n + k) c e)) ?_ (h W.heap.size (grownCap W (n + k) c e) (olds ++ (Builtin.zeroCells z.cells k).toList ++ (Builtin.zeroCells z.cells (grownCap W (n + k) c e - (n + k))).toList) _ (Nat.le_refl _) hge hgm ?_ ?_ ?_ ?_)
  · simp [execOp, ho, resolve, invoke, builtin, Sem.run_bind, Sem.run_pure, Result.andThen_ok, hs, hx, hr]
  · exact (Fr.refl No W).drew.no (Fr.alloc _ _)
  · have := Blk.new W.drew e (olds ++ (Builtin.zeroCells z.cells k).toList ++ (Builtin.zeroCells z.cells (grownCap W (n + k) c e - (n + k))).toList)
    have e1 : (olds ++ (Builtin.zeroCells z.cells k).toList ++ (Builtin.zeroCells z.cells (grownCap W (n + k) c e - (n + k))).toList).toArray = olds.toArray ++ Builtin.zeroCells z.cells k ++ Builtin.zeroCells z.cells (grownCap W (n + k) c e - (n + k)) := by simp
    rw [e1] at this
    exact this
  · simp only [List.length_append, Array.length_toList, Builtin.zeroCells, Array.size_map, Array.size_range, hz, hol]
    rw [← Nat.add_mul, ← Nat.add_mul]
    congr 1
    omega
  · rw [List.append_assoc, List.take_append_of_le_length (by omega), List.take_of_length_le (by omega)]
/-- 'append(s, x...)' in place: there is room. -/
theorem ev_append_room (hgd : o.guard = none) (s x : Operand) (t e : TypeId) (ho : o.op = .call { callee := .builtin .append, args := #[s, x], argTypes := #[t, t] })
    (ht : P.underlying t = some (.slice e)) (size : Nat) (hinfo : (P.info? e).map (·.size) = some size)
    (g off n c : Nat) (xp : Option Addr) (m cx nk : Nat) (hnk : n + m = nk) (hs : a.eval s = .slice (some ⟨g, off, none⟩) n c) (hx : a.eval x = .slice xp m cx) (t' : TypeId) (cur : List Value) (hb : Blk W g t' cur)
    (news : List Value) (hl : news.length = m * size) (hp : 0 < news.length → ∃ ad, xp = some ad ∧ ∀ j u, news[j]? = some u → W.cell? (ad.add j) = some u) (h1 : ∀ u ∈ news, u.oneCell' = true) (hroom : n + m ≤ c) (hfit : off + n * size + news.length ≤ cur.length)
    (h : ∀ w1, Fr (One g) W w1 → Blk w1 g t' (cur.take (off + n * size) ++ news ++ cur.drop (off + n * size + news.length)) → wpList P ops Q rest (a.put o.dst (.slice (some ⟨g, off, none⟩) nk c)) w1) : wpList P ops Q (o :: rest) a W := by
  subst hnk
  obtain ⟨i0, hi, hz1⟩ := Option.map_eq_some_iff.1 hinfo
  have hfc : (Builtin.firstCells size m (.slice xp m cx)).run P W = .ok news.toArray W := by
    cases xp with
    | none =>
      have : news = [] := by
        cases news with
        | nil => rfl
        | cons u us => obtain ⟨ad, e, _⟩ := hp (by simp); cases e
      subst this
      exact run_firstCells_none W size m m cx
    | some ad =>
      refine run_firstCells_some W size m ad m cx news hl (fun j v hj => ?_)
      obtain ⟨ad', e, hc⟩ := hp (by have := (List.getElem?_eq_some_iff.1 hj).1; omega)
      injection e with e
      subst e
      exact hc j v hj
  have hadd : (⟨g, off, none⟩ : Addr).add (n * size) = ⟨g, off + n * size, none⟩ := by rw [Addr.add_lit]
  have hst := run_storeCells_at P g (off + n * size) t' news 0 cur.toArray W hb.out (by simpa using hfit) h1
  refine run_value hgd (w1 := W.setRow g (cur.take (off + n * size) ++ news ++ cur.drop (off + n * size + news.length)).toArray) (v := .slice (some ⟨g, off, none⟩) (n + m) c) ?_ (h _ (Fr.setRow _ _ _) (hb.row _))
  simp [execOp, ho, resolve, invoke, builtin, Sem.run_bind, Sem.run_pure, Result.andThen_ok, hs, hx, Builtin.append_, run_underlying ht, sizeOf, typeInfo, hi, hz1, Builtin.lenOf, hroom, hfc, hadd, hst]

/-- 'clear(s)', s not empty. -/
theorem ev_clear (hgd : o.guard = none) (x : Operand) (t e : TypeId) (ho : o.op = .call { callee := .builtin .clear, args := #[x], argTypes := #[t] }) (ht : P.underlying t = some (.slice e)) (z : Value) (zs : List Value)
    (hz : (P.info? e).bind (·.zero) = some z) (hzs : z.cells = zs.toArray) (h1 : ∀ v ∈ zs, v.oneCell' = true) (g off c : Nat) (hx : a.eval x = .slice (some ⟨g, off, none⟩) 1 c) (t' : TypeId) (cur : List Value) (hb : Blk W g t' cur) (hfit : off + zs.length ≤ cur.length)
    (h : ∀ w1, Fr (One g) W w1 → Blk w1 g t' (cur.take off ++ zs ++ cur.drop (off + zs.length)) → wpList P ops Q rest (a.put o.dst (.tuple #[])) w1) : wpList P ops Q (o :: rest) a W := by
  have hzr : (zeroValue e).run P W = .ok z W := by
    obtain ⟨i, hi, hiz⟩ := Option.bind_eq_some_iff.1 hz
    simp [zeroValue, typeInfo, hi, hiz]
  have hzc : (Builtin.zeroCells z.cells 1).toList = zs := by
    rw [hzs]
    simp only [Builtin.zeroCells, Nat.one_mul, List.size_toArray, Array.toList_map, Array.toList_range]
    apply List.ext_getElem?
    intro j
    by_cases hj : j < zs.length
    · simp [hj, Nat.mod_eq_of_lt hj, List.getElem?_eq_getElem hj, List.getElem_range]
    · rw [List.getElem?_eq_none (Nat.not_lt.1 hj), List.getElem?_eq_none (by simpa using hj)]
  have hst := run_storeCells_at P g off t' zs 0 cur.toArray W hb.out (by simpa using hfit) h1
  refine run_value hgd (w1 := W.setRow g (cur.take off ++ zs ++ cur.drop (off + zs.length)).toArray) (v := .tuple #[]) ?_ (h _ (Fr.setRow _ _ _) (hb.row _))
  simp [execOp, ho, resolve, invoke, builtin, Sem.run_bind, Sem.run_pure, Result.andThen_ok, hx, Builtin.clear_, run_underlying ht, hzr, hzc, hst]

/-- Two results: a struct that lies in memory, and a slot's value. -/
theorem results_row_tmp {fn : Func} {p q : Tmp} {ty : TypeId} (h : fn.results = #[.cell p ty, .tmp q]) (tmps : Array Value) (w : World) (g : Nat) (t : TypeId) (cs : List Value) (d : TypeDesc)
    (hp : tmps.getD p undef = .pointer (some ⟨g, 0, none⟩)) (hb : Blk w g t cs) (hu : P.underlying ty = some d) (hd : (match d with | .struct _ | .array _ _ => true | _ => false) = true) (hi : (P.info? ty).map (·.size) = some cs.length) :
    (results fn tmps).run P w = .ok (.tuple #[.agg cs.toArray, tmps.getD q undef]) w := by
  have hp' : tmps[p]?.getD undef = .pointer (some ⟨g, 0, none⟩) := by simpa using hp
  simp [results, h, hp', asAddr, run_loadVar_row w g t ty cs.toArray (0, 0) d hb.out hu hd (by simpa using hi)]

/-- A store as one step of a region that draws. -/
theorem step_store {K : Act → World → Prop} {E : Prop} (hgd : o.guard = none) (ty : TypeId) (x y : Operand) (ho : o.op = .store ty x y) (g i : Nat) (v : Value) (hx : a.eval x = .pointer (some ⟨g, i, none⟩)) (hy : a.eval y = v) (hv : v.oneCell' = true)
    (t : TypeId) (cs : List Value) (hb : Blk W g t cs) (hil : i < cs.length) (hi : (P.info? ty).map (·.size) = some 1)
    (h : ∀ w1, Fr (One g) W w1 → Blk w1 g t (cs.set i v) → K (a.put o.dst undef) w1) : if Region.wanted o (yielded ops a.tmps) = true then Oper.wp P o a W K Q else E := by
  have hw : Region.wanted o (yielded ops a.tmps) = true := by simp [Region.wanted, hgd]
  rw [if_pos hw]
  have hc : W.cell? ⟨g, i, none⟩ = some cs[i] := hb.at_ i (List.getElem?_eq_getElem hil)
  have hf := hb.free i
  have hsz : (sizeOf ty).run P W = .ok 1 W := by
    obtain ⟨q, hq, hq1⟩ := Option.map_eq_some_iff.1 hi
    simp [sizeOf, typeInfo, hq, hq1]
  have hadd : (⟨g, i, none⟩ : Addr).add 0 = ⟨g, i, none⟩ := by unfold Addr.add; split <;> simp_all
  have hcells : v.cells = #[v] := by
    cases v <;> first | rfl | (simp [Value.oneCell'] at hv)
  have hst : (store ⟨g, i, none⟩ v).run P W = .ok () (W.setCell ⟨g, i, none⟩ v) := by
    rw [run_store P W ⟨g, i, none⟩ v .plain hv]
    simp [hc, hf]
  have hrun : (execOp a.eval o).run P W = .ok .skip (W.setCell ⟨g, i, none⟩ v) := by
    simp [execOp, ho, hx, hy, Instr.storeAt, Instr.sureAddr, storeVar, hcells, hsz, storeCells, hadd, hst, Sem.run_bind, Result.andThen]
  unfold Oper.wp
  rw [hrun]
  exact h _ (Fr.setCell _ _ _ _) (hb.set i v)

/-- A row with a lower base. -/
theorem own_le {w : World} {base base' n size : Nat} {e : TypeId} {v : Value} {cs : List Value} (h : w.ownsRow base e size v n cs) (hb : base' ≤ base) : w.ownsRow base' e size v n cs := by
  refine ⟨h.1, ?_⟩
  rcases h.2 with h2 | ⟨g, cap, cur, hv, hbg, rest⟩
  · exact .inl h2
  · exact .inr ⟨g, cap, cur, hv, Nat.le_trans hb hbg, rest⟩

/-! A region that draws its order, quiet in a class of worlds: one step at a time. -/
theorem quiet_val {C : World → Prop} {Qq : Act → Prop} {v : Value} (hw : Region.wanted o (yielded ops a.tmps) = true) (h : ∀ w, C w → (execOp a.eval o).run P w = .ok (.value v) w) {a' : Act} (ha : a.put o.dst v = a')
    (hq : wpQuiet P ops C Qq rest a') : wpQuiet P ops C Qq (o :: rest) a := by
  subst ha
  refine wpQuiet_step fun K hK => ?_
  rw [if_pos hw]
  refine ⟨v, fun w hC => ?_, hK _ hq⟩
  unfold Oper.quietAt
  rw [h w hC]
  exact ⟨rfl, rfl⟩
theorem gate_q {N : Tmp} {C : World → Prop} {Qq : Act → Prop} (_hN : o.dst = some N) (h : wpQuiet P ops C Qq (o :: rest) a) : wpQuiet P ops C Qq (o :: rest) a := h
theorem quiet_off {C : World → Prop} {Qq : Act → Prop} (hw : Region.wanted o (yielded ops a.tmps) = false) {a' : Act} (ha : a.put o.dst undef = a') (hq : wpQuiet P ops C Qq rest a') : wpQuiet P ops C Qq (o :: rest) a := by
  subst ha
  refine wpQuiet_step fun K hK => ?_
  rw [if_neg (by rw [hw]; exact Bool.false_ne_true)]
  exact hK _ hq
theorem quiet_call {C : World → Prop} {Qq : Act → Prop} {v : Value} {f : FuncId} {fn : Func} {ags : Array Operand} {ts : Array TypeId} (hf : P.funcs[f]? = some fn) (hname : (fn.name == "runtime.NumGoroutine") = false) (hb : fn.body.isSome = true) (args : Array Value)
    (hw : Region.wanted o (yielded ops a.tmps) = true) (hop : o.op = .call { callee := .value (.func f), args := ags, argTypes := ts }) (hargs : ags.map a.eval = args)
    (h : ∀ w, C w → Calls P f args w fun e w' => e = .returned v ∧ C w') {a' : Act} (ha : a.put o.dst v = a') (hq : wpQuiet P ops C Qq rest a') : wpQuiet P ops C Qq (o :: rest) a := by
  subst ha
  refine wpQuiet_step fun K hK => ?_
  rw [if_pos hw]
  refine ⟨v, fun w hC => ?_, hK _ hq⟩
  have he : (callFunc f args).run P w = .ok (.enter f args) w := by
    have h1 : fn.name ≠ "runtime.NumGoroutine" := by simpa using hname
    obtain ⟨c, hc⟩ := Option.isSome_iff_exists.1 hb
    simp [callFunc, hf, h1, hc]
  have hrun : (execOp a.eval o).run P w = .ok (.enter f args) w := by
    unfold execOp
    simp [hop, resolve, Deferred.ofValue, invoke, Act.eval, hargs, he]
  unfold Oper.quietAt
  rw [hrun]
  exact ⟨rfl, h w hC⟩
theorem region_quiet {C : World → Prop} {id : Nat} {l : List Oper} {w : World} (hm : P.follows .mixedOrders = true) (hB : Region.lexB .any l.toArray = true) (hC : C w.drew)
    (h : wpQuiet P l.toArray C (fun a' => ∀ w', C w' → Q .normal a' w') l a) : (Code.region id l.toArray true).wp P Q a w :=
  wp_region_quiet (C := C) hm hB hC (by simpa using h)
end
end Go.Proofs.YtaohfmmapammcaaDoor.Ev

/- Steps of a region that draws its order: a new block, a row stored; texts in memory. No conditions beside those written out. -/
set_option linter.unusedSimpArgs false
set_option linter.unusedVariables false
namespace Go.Proofs.YtaohfmmapammcaaDoor.Ev
open Go Go.RowKit

section
variable {P : Program} {ops : Array Oper} {rest : List Oper} {o : Oper} {a : Act} {Q : Exit → Act → World → Prop} {W : World} {K : Act → World → Prop} {E : Prop}
/-- A new block as one step of a region that draws. -/
theorem step_alloc {N : Option Tmp} (hgd : o.guard = none) (hd : o.dst = N) (t : TypeId) (ho : o.op = .alloc t) (z : Value) (zs : List Value) (hz : (P.info? t).bind (·.zero) = some z) (hzs : z.cells = zs.toArray)
    (h : ∀ g w1, W.heap.size ≤ g → Fr No W w1 → Blk w1 g t zs → K (a.put N (.pointer (some ⟨g, 0, none⟩))) w1) : if Region.wanted o (yielded ops a.tmps) = true then Oper.wp P o a W K Q else E := by
  have hw : Region.wanted o (yielded ops a.tmps) = true := by simp [Region.wanted, hgd]
  rw [if_pos hw]
  have hzr : (zeroValue t).run P W = .ok z W := by
    obtain ⟨i, hi, hiz⟩ := Option.bind_eq_some_iff.1 hz
    simp [zeroValue, typeInfo, hi, hiz]
  have hrun : (execOp a.eval o).run P W = .ok (.value (.pointer (some ⟨W.heap.size, 0, none⟩))) (W.alloc (.cells z.cells t (0, 0))) := by
    simp [execOp, ho, Instr.alloc, hzr, newVar, newRow, Sem.run_bind, Result.andThen]
  unfold Oper.wp
  rw [hrun]
  subst hd
  exact h _ _ (Nat.le_refl _) (Fr.alloc _ _) (by rw [hzs]; exact Blk.new W t zs)
/-- A row stored as one step of a region that draws. -/
theorem step_store_row (hgd : o.guard = none) (hd : o.dst = none) (ty : TypeId) (x y : Operand) (ho : o.op = .store ty x y) (g : Nat) (vs : Array Value) (hx : a.eval x = .pointer (some ⟨g, 0, none⟩)) (hy : a.eval y = .agg vs)
    (t : TypeId) (cs : List Value) (hb : Blk W g t cs) (hi : (P.info? ty).map (·.size) = some vs.size) (hl : cs.length = vs.size) (h1 : vs.all (·.oneCell') = true)
    (h : ∀ w1, Fr (One g) W w1 → Blk w1 g t vs.toList → K (a.put none undef) w1) : if Region.wanted o (yielded ops a.tmps) = true then Oper.wp P o a W K Q else E := by
  have hw : Region.wanted o (yielded ops a.tmps) = true := by simp [Region.wanted, hgd]
  rw [if_pos hw]
  refine wp_store_row ty x y ho g vs hx hy t cs.toArray hb.out hi (by simpa using hl) h1 ?_
  rw [hd]
  exact h _ (Fr.setRow _ _ _) (by simpa using hb.row vs.toList)
end

section
open Go.Proofs.YtaohfmmapammcaaDoorW.PrintLast
/-- What a region leaves, once for all its orders: u the values that play no part any more, t those that do. -/
def Leaves {τ : Type} (a : Act) (ns : (Nat → Value) → τ → List (Tmp × Value)) (F : τ → World → Prop) (e : Exit) (a' : Act) (w' : World) : Prop := e = .normal ∧ ∃ u t, a' = putAll a (ns u t) ∧ F t w'
theorem Leaves.pan {τ : Type} {a : Act} {ns : (Nat → Value) → τ → List (Tmp × Value)} {F : τ → World → Prop} {c : List PanicEntry} {a' : Act} {w' : World} {p : Prop} (h : Leaves a ns F (.panic c) a' w') : p := by
  have := h.1
  cases this
theorem region_join {P : Program} {c : Code} {Q : Exit → Act → World → Prop} {a : Act} {w : World} {τ : Type} (ns : (Nat → Value) → τ → List (Tmp × Value)) (F : τ → World → Prop)
    (h : c.wp P (Leaves a ns F) a w) (hcont : ∀ u t w', F t w' → Q .normal (putAll a (ns u t)) w') : c.wp P Q a w := by
  refine Code.wp_mono (fun e a' w' hh => ?_) h
  obtain ⟨rfl, u, t, rfl, hF⟩ := hh
  exact hcont u t w' hF
theorem join_fin {a a' : Act} {w' : World} {τ : Type} {ns : (Nat → Value) → τ → List (Tmp × Value)} {F : τ → World → Prop} (t : τ) (hF : F t w') (h : putAll a (ns (fun i => a'.tmps.getD i undef) t) = a') :
    Leaves a ns F .normal a' w' := ⟨rfl, _, t, h.symm, hF⟩
end

/-- The slice v reads as the texts xs. -/
structure StrS (w : World) (v : Value) (xs : List ByteArray) : Prop where
  out : ∃ A c, v = .slice A xs.length c ∧ xs.length ≤ c ∧ c ≤ 9223372036854775807 ∧ (0 < xs.length → ∃ b o, A = some ⟨b, o, none⟩ ∧ b < w.heap.size ∧
    ∀ j, j < xs.length → w.cell? ⟨b, o + j, none⟩ = some (.string (xs.getD j ByteArray.empty)))
theorem StrS.nil (w : World) : StrS w (.slice none 0 0) [] := ⟨⟨none, 0, rfl, Nat.le_refl _, by omega, fun h => absurd h (by simp)⟩⟩
theorem StrS.keep {S : Nat → Prop} {w w' : World} {v : Value} {xs : List ByteArray} (h : StrS w v xs) (f : Fr S w w') (hn : ∀ b, b < w.heap.size → (∃ o n c, v = .slice (some ⟨b, o, none⟩) n c) → ¬ S b) : StrS w' v xs := by
  obtain ⟨A, c, rfl, h1, h2, h3⟩ := h.out
  refine ⟨⟨A, c, rfl, h1, h2, fun hp => ?_⟩⟩
  obtain ⟨b, o, rfl, hb, hc⟩ := h3 hp
  have hnb := hn b hb ⟨o, _, _, rfl⟩
  exact ⟨b, o, rfl, Nat.lt_of_lt_of_le hb f.size, fun j hj => Fr.cell (hc j hj) f hnb⟩
theorem StrS.no {w w' : World} {v : Value} {xs : List ByteArray} (h : StrS w v xs) (f : Fr No w w') : StrS w' v xs := h.keep f (fun _ _ _ hh => hh)
theorem StrS.one {w : World} {v : Value} {xs : List ByteArray} (h : StrS w v xs) : v.oneCell' = true := by
  obtain ⟨A, c, rfl, _⟩ := h.out
  rfl
end Go.Proofs.YtaohfmmapammcaaDoor.Ev

/- What chunk computes, over lists of bytes; no program in sight. No conditions beside those written out. -/
set_option linter.unusedSimpArgs false
set_option linter.unusedVariables false
namespace Go.Proofs.YtaohfmmapammcaaDoor.Ch
open Go Go.Proofs.YtaohfmmapammcaaDoor.Dig

/-- A file's k-th chunk, of size z. -/
def pieceL (z : Nat) (l : List UInt8) (k : Nat) : List UInt8 := (l.drop (z * k)).take z
def cutN (z : Nat) (l : List UInt8) : Nat := (l.length + (z - 1)) / z
def cutZ (z : Nat) (l : List UInt8) : List (List UInt8) := (List.range (cutN z l)).map (pieceL z l)
abbrev cutL (l : List UInt8) : List (List UInt8) := cutZ 16 l
def nameL (c : List UInt8) : List UInt8 := if c.all (· == 0) then [] else sumL c
def namesL (l : List UInt8) : List (List UInt8) := (cutL l).map nameL
def zerosL (n : Int) : List UInt8 := List.replicate n.toNat 0
def fullL (s : List UInt8) (off : Int) : List UInt8 := s ++ zerosL (off - s.length)
def putL (s : List UInt8) (off : Int) (d : List UInt8) : List UInt8 × Int :=
  if off < 0 then ([], 1) else if 4096 < off then ([], 3) else if 4096 - off < (d.length : Int) then ([], 3) else if d = [] then (s, 0)
  else ((fullL s off).take off.toNat ++ d ++ (fullL s off).drop (off.toNat + d.length), 0)
def truncL (s : List UInt8) (size : Int) : List UInt8 × Int :=
  if size < 0 then ([], 1) else if 4096 < size then ([], 3) else ((fullL s size).take size.toNat, 0)
def getL (s : List UInt8) (off n : Int) : List UInt8 × Int :=
  if off < 0 then ([], 1) else if n < 0 then ([], 1) else ((s.drop off.toNat).take n.toNat, 0)
def copyL (s : List UInt8) (off : Int) (src : List UInt8) (fr n : Int) : List UInt8 × Int :=
  if fr < 0 then ([], 1) else if n < 0 then ([], 1) else if (src.length : Int) < fr then ([], 1) else if (src.length : Int) - fr < n then ([], 1)
  else putL s off ((src.drop fr.toNat).take n.toNat)

theorem zerosL_len (n : Int) : (zerosL n).length = n.toNat := by simp [zerosL]
theorem fullL_len (s : List UInt8) (off : Int) : (fullL s off).length = s.length + (off - s.length).toNat := by simp [fullL, zerosL_len]
theorem pieceL_len (z : Nat) (l : List UInt8) (k : Nat) : (pieceL z l k).length = min z (l.length - z * k) := by simp [pieceL]
theorem cutZ_len (z : Nat) (l : List UInt8) : (cutZ z l).length = cutN z l := by simp [cutZ]
theorem cutZ_get (z : Nat) (l : List UInt8) (k : Nat) (h : k < cutN z l) : (cutZ z l)[k]? = some (pieceL z l k) := by
  simp [cutZ, h]
theorem cutN_lt (z : Nat) (hz : 0 < z) (l : List UInt8) (k : Nat) : k < cutN z l ↔ z * k < l.length := by
  unfold cutN
  rw [← Nat.succ_le_iff, Nat.le_div_iff_mul_le hz, Nat.succ_mul, Nat.mul_comm k z]
  omega
theorem nameL_len (c : List UInt8) : (nameL c).length ≤ 32 := by
  unfold nameL
  split
  · simp
  · rw [sumL_len]; omega

/-! The law ChunkPuts. -/
theorem putL_bad {s : List UInt8} {off : Int} {d : List UInt8} (h : (putL s off d).2 ≠ 0) : (putL s off d).1 = [] ∧ (off < 0 ∨ 4096 - (d.length : Int) < off) := by
  unfold putL at h ⊢
  by_cases h1 : off < 0
  · rw [if_pos h1]; exact ⟨rfl, .inl h1⟩
  rw [if_neg h1] at h ⊢
  by_cases h2 : 4096 < off
  · rw [if_pos h2]; exact ⟨rfl, .inr (by omega)⟩
  rw [if_neg h2] at h ⊢
  by_cases h3 : 4096 - off < (d.length : Int)
  · rw [if_pos h3]; exact ⟨rfl, .inr (by omega)⟩
  rw [if_neg h3] at h
  by_cases h4 : d = []
  · rw [if_pos h4] at h; exact absurd rfl h
  · rw [if_neg h4] at h; exact absurd rfl h
/-- What a put file is, byte by byte. -/
structure PutOk (s : List UInt8) (off : Nat) (d t : List UInt8) : Prop where
  len : t.length = if d = [] then s.length else max s.length (off + d.length)
  mid : d ≠ [] → ∀ i, i < d.length → t[off + i]? = d[i]?
  out : ∀ i, i < t.length → (i < off ∨ off + d.length ≤ i) → t[i]? = if i < s.length then s[i]? else some 0
  nil : d = [] → t = s
theorem full_get (s : List UInt8) (off : Int) (i : Nat) (h : i < (fullL s off).length) : (fullL s off)[i]? = if i < s.length then s[i]? else some 0 := by
  rw [fullL_len] at h
  unfold fullL
  by_cases hi : i < s.length
  · rw [if_pos hi, List.getElem?_append_left hi]
  · rw [if_neg hi, List.getElem?_append_right (by omega), zerosL, List.getElem?_replicate, if_pos (by omega)]
theorem putL_ok {s : List UInt8} {off : Int} {d : List UInt8} (h : (putL s off d).2 = 0) : 0 ≤ off ∧ off ≤ 4096 - (d.length : Int) ∧ PutOk s off.toNat d (putL s off d).1 := by
  unfold putL at h ⊢
  by_cases h1 : off < 0
  · rw [if_pos h1] at h; cases h
  rw [if_neg h1] at h ⊢
  by_cases h2 : 4096 < off
  · rw [if_pos h2] at h; cases h
  rw [if_neg h2] at h ⊢
  by_cases h3 : 4096 - off < (d.length : Int)
  · rw [if_pos h3] at h; cases h
  rw [if_neg h3] at h ⊢
  refine ⟨by omega, by omega, ?_⟩
  by_cases h4 : d = []
  · rw [if_pos h4]
    refine ⟨by rw [if_pos h4], fun h => absurd h4 h, fun i hi _ => ?_, fun _ => rfl⟩
    rw [if_pos hi]
  · rw [if_neg h4]
    obtain ⟨o, rfl⟩ := Int.eq_ofNat_of_zero_le (by omega : 0 ≤ off)
    have hfl : (fullL s (o : Int)).length = max s.length o := by rw [fullL_len]; omega
    have htl : ((fullL s (o : Int)).take o).length = o := by rw [List.length_take, hfl]; omega
    have hto : (Int.toNat (o : Int)) = o := rfl
    simp only [hto]
    have hlen : ((fullL s (o : Int)).take o ++ d ++ (fullL s (o : Int)).drop (o + d.length)).length = max s.length (o + d.length) := by
      rw [List.length_append, List.length_append, htl, List.length_drop, hfl]; omega
    have hd0 : 0 < d.length := List.length_pos_iff.2 h4
    refine ⟨by rw [if_neg h4, hlen], fun _ i hi => ?_, fun i hi ho => ?_, fun h => absurd h h4⟩
    · rw [List.append_assoc, List.getElem?_append_right (by omega), htl, List.getElem?_append_left (by omega)]
      congr 1; omega
    · rw [hlen] at hi
      rcases ho with ho | ho
      · rw [List.append_assoc, List.getElem?_append_left (by omega), List.getElem?_take_of_lt ho, full_get _ _ _ (by rw [hfl]; omega)]
      · rw [List.getElem?_append_right (by rw [List.length_append, htl]; omega), List.length_append, htl, List.getElem?_drop]
        rw [show o + d.length + (i - (o + d.length)) = i by omega, full_get _ _ _ (by rw [hfl]; omega)]
theorem put_get {s : List UInt8} {off : Int} {d : List UInt8} (h : (putL s off d).2 = 0) : getL (putL s off d).1 off d.length = (d, 0) := by
  obtain ⟨h0, h1, k⟩ := putL_ok h
  unfold getL
  rw [if_neg (by omega), if_neg (by omega)]
  congr 1
  by_cases hd : d = []
  · subst hd; simp
  · have hl := k.len
    rw [if_neg hd] at hl
    apply List.ext_getElem?
    intro i
    by_cases hi : i < d.length
    · rw [List.getElem?_take_of_lt (by simpa using hi), List.getElem?_drop, k.mid hd i hi]
    · rw [List.getElem?_eq_none (by simp; omega), List.getElem?_eq_none (by omega)]
theorem trunc_self {t : List UInt8} (h : t.length ≤ 4096) : truncL t t.length = (t, 0) := by
  unfold truncL
  rw [if_neg (by omega), if_neg (by omega)]
  simp [fullL, zerosL]

/-! The law ChunkCuts. -/
theorem trunc_ok {s : List UInt8} {size : Int} (h0 : 0 ≤ size) (h1 : size ≤ 4096) : (truncL s size).2 = 0 ∧ (truncL s size).1.length = size.toNat ∧ ∀ i, i < size.toNat → (truncL s size).1[i]? = if i < s.length then s[i]? else some 0 := by
  unfold truncL
  rw [if_neg (by omega), if_neg (by omega)]
  obtain ⟨o, rfl⟩ := Int.eq_ofNat_of_zero_le h0
  have hfl : (fullL s (o : Int)).length = max s.length o := by rw [fullL_len]; omega
  have hto : (Int.toNat (o : Int)) = o := rfl
  refine ⟨rfl, by rw [List.length_take, hfl, hto]; omega, fun i hi => ?_⟩
  rw [hto] at hi ⊢
  simp only
  rw [List.getElem?_take_of_lt hi, full_get _ _ _ (by rw [hfl]; omega)]
theorem copy_self {s : List UInt8} (h : s.length ≤ 4096) : copyL [] 0 s 0 s.length = (s, 0) := by
  unfold copyL
  rw [if_neg (by omega), if_neg (by omega), if_neg (by omega), if_neg (by omega)]
  unfold putL
  simp only [Int.toNat_zero, List.drop_zero, Int.toNat_natCast, List.take_length]
  rw [if_neg (by omega), if_neg (by omega), if_neg (by omega)]
  by_cases hs : s = []
  · rw [if_pos hs, hs]
  · rw [if_neg hs]
    simp [fullL, zerosL]
end Go.Proofs.YtaohfmmapammcaaDoor.Ch

/- slices.Chunk over bytes: what its iterator hands to a loop's body. Conditions: sizes are bounded, as written out. -/
set_option linter.unusedSimpArgs false
set_option linter.unusedVariables false
namespace Go.Proofs.YtaohfmmapammcaaDoor.Ch
open Go Go.RowKit Go.Shelf Go.Proofs.YtaohfmmapammcaaDoor.Dig Go.Proofs.YtaohfmmapammcaaDoor.Ev

attribute [local go_sem] Oper.semAt_some

/-- What has come when k rounds are over. -/
def upto (N : Nat) (k : Nat) : List (Fin N) := (List.finRange N).take k
theorem upto_succ (N k : Nat) (h : k < N) : upto N (k + 1) = upto N k ++ [⟨k, h⟩] := by
  unfold upto
  rw [List.take_add_one]
  simp [h]
theorem upto_len (N k : Nat) (h : k ≤ N) : (upto N k).length = k := by simp [upto]; omega
theorem upto_all (N : Nat) : upto N N = List.finRange N := List.take_of_length_le (by simp)

/-- The k-th piece of a row of len bytes. -/
def pieceV (b z len : Nat) (k : Nat) : Value := .slice (some ⟨b, z * k, none⟩) (min z (len - z * k)) (min z (len - z * k))
/-- The iterator's two boxes stay. -/
def KpB (Bs Bz : Nat) (W W' : World) : Prop := W'.heap[Bs]? = W.heap[Bs]? ∧ W'.heap[Bz]? = W.heap[Bz]?
theorem KpB.t {Bs Bz : Nat} {A B C : World} (h : KpB Bs Bz A B) (k : KpB Bs Bz B C) : KpB Bs Bz A C := ⟨k.1.trans h.1, k.2.trans h.2⟩
theorem KpB.b {Bs Bz : Nat} {w : World} (h1 : Bs < w.heap.size) (h2 : Bz < w.heap.size) (W : World) (l : Nat) (o o' : Obj) (hl : w.heap.size ≤ l) (h : W.heap[l]? = some o) (_ : o.isCells = false) (_ : o.isWalk = false) : KpB Bs Bz W (W.putObj l o') :=
  ⟨World.putObj_heap_other (by omega), World.putObj_heap_other (by omega)⟩
theorem KpB.of {n₀ Bs Bz : Nat} {A B : World} (h : Below n₀ A B) (h1 : Bs < n₀) (h2 : Bz < n₀) : KpB Bs Bz A B := ⟨h.block _ h1, h.block _ h2⟩

set_option maxRecDepth 100000 in
set_option maxHeartbeats 4000000 in
theorem chunk1_in (n : Nat) (hn : 1 ≤ n) (l Bs Bz b len cap z N : Nat) (hz : 0 < z) (hz2 : z ≤ 4096) (hN : ∀ k, k < N ↔ z * k < len) (hlen : len ≤ 1099511627776) (hcap : len ≤ cap)
    (J Jx : List (Fin N) → World → Prop) (hJd : ∀ s W n, J s W → J s (W.drewN n))
    (hY : ∀ pre x W, J pre W → pre.length < N → YieldAt Fence.wide (n - 1) Tryd.prog l #[pieceV b z len x.1] W fun e W' =>
      (e = .returned (.bool true) ∧ J (pre ++ [x]) W' ∧ KpB Bs Bz W W') ∨ (e = .returned (.bool false) ∧ Jx (pre ++ [x]) W'))
    (W : World) (hBs : W.heap[Bs]? = some (.cells #[.slice (some ⟨b, 0, none⟩) len cap] 49 (0, 0))) (hBz : W.heap[Bz]? = some (.cells #[.int .i64 z] 3 (0, 0))) (h0 : J [] W) :
    CallsIn Fence.wide n Tryd.prog 37 #[.func (.yield l) #[] #[], .pointer (some ⟨Bs, 0, none⟩), .pointer (some ⟨Bz, 0, none⟩)] W fun e W' => (∃ v, e = .returned v) ∧
      ((∃ ys, ys = List.finRange N ∧ J ys W') ∨ (∃ pre, (∃ k, k ≤ N ∧ pre = upto N k) ∧ Jx pre W')) := by
  refine callsIn_of_wp Tryd.func37 rfl trivial ?_ rfl
  simp only [Tryd.ntmps37, List.size_toArray, List.length_cons, List.length_nil, Nat.reduceAdd, Nat.reduceSub, Array.replicate_succ, Array.replicate_zero, List.push_toArray, List.append_toArray, List.nil_append, List.cons_append]
  gi_wp2
  gi_loopw [4] (fun i wr => ∃ k : Nat, k ≤ N ∧ i = .int .i64 (z * k : Nat) ∧ J (upto N k) wr ∧ KpB Bs Bz W wr)
    (fun i _ => len + z - (intOf i).toNat)
  case atStart => exact ⟨0, Nat.zero_le _, by simp, h0, ⟨rfl, rfl⟩⟩
  case round =>
    obtain ⟨k, hk, rfl, hJs, hkp⟩ := hrel
    have cs : wr.cell? ⟨Bs, 0, none⟩ = some (.slice (some ⟨b, 0, none⟩) len cap) := by simp [World.cell?, hkp.1, hBs]
    have cz : wr.cell? ⟨Bz, 0, none⟩ = some (.int .i64 z) := by simp [World.cell?, hkp.2, hBz]
    have HKP := Kp.mk hkp
    clear hkp hBs hBz
    by_cases hlt : k < N
    · have hlt2 : z * k < len := (hN k).1 hlt
      obtain ⟨q, hq⟩ : ∃ q, q = z * k := ⟨_, rfl⟩
      obtain ⟨m, hm⟩ : ∃ m, m = min z (len - q) := ⟨_, rfl⟩
      rw [← hq] at hlt2 ⊢
      have HQ := Kp.mk hq
      have HY := Kp.mk (fun W hJ => hY (upto N k) ⟨k, hlt⟩ W hJ (by rw [upto_len _ _ hk]; exact hlt))
      have hle : (q : Int) ≤ (len : Int) := by omega
      have hm1 : 1 ≤ m := by omega
      have hm2 : q + m ≤ len := by omega
      have hm3 : min (z : Int) ((len - q : Nat) : Int) = (m : Int) := by omega
      have hm4 : ¬ m = 0 := by omega
      have hcq : ¬ cap = q := by omega
      have HM := Kp.mk hm
      clear hq hN hY hm
      gi_wp2
      gi_quiet (fail)
      rename_i nq
      obtain ⟨fn, tmps, assign, body, hy, hR⟩ := HY.out (wr.drewN nq) (hJd _ _ _ hJs)
      dsimp only [pieceV] at hy
      rw [← HQ.out, ← HM.out] at hy
      clear HY
      gi_wp2
      refine hR.mono ?_
      rintro e W3 (⟨rfl, hJ3, hk3⟩ | ⟨rfl, hJx3⟩)
      · have cz3 : W3.cell? ⟨Bz, 0, none⟩ = some (.int .i64 z) := by
          have hx : W3.heap[Bz]? = wr.heap[Bz]? := hk3.2
          have := World.cell?_of_block (w := wr) (w' := W3) (a := ⟨Bz, 0, none⟩) hx
          exact this.trans cz
        clear hy hR
        gi_wp2
        go_roundw
        case rel => exact ⟨k + 1, by omega, by rw [Nat.mul_succ, ← HQ.out]; go_num, by rw [upto_succ N k hlt]; exact hJ3, HKP.out.t hk3⟩
        case measure => simp [intOf]; omega
      · gi_wp2
        refine bodyPost_ret (results_none rfl _ _ _) rfl ?_
        exact ⟨⟨_, rfl⟩, .inr ⟨_, ⟨k + 1, by omega, (upto_succ _ _ hlt).symm⟩, hJx3⟩⟩
    · have hge : len ≤ z * k := by have := (not_congr (hN k)).1 hlt; omega
      obtain rfl : k = N := by omega
      obtain ⟨q, hq⟩ : ∃ q, q = z * k := ⟨_, rfl⟩
      rw [← hq] at hge ⊢
      clear hN hY hq
      gi_wp2
      go_end0
      exact ⟨⟨_, rfl⟩, .inl ⟨_, rfl, by rw [← upto_all]; exact hJs⟩⟩

set_option maxHeartbeats 1000000 in
theorem chunk_in (F : Fence) (n : Nat) (h30 : F.fn 30) (hro : F.round = none) (a : Option Addr) (len cap : Nat) (z : Nat) (hz : 0 < z) (w : World) :
    CallsIn F n Tryd.prog 30 #[.slice a len cap, .int .i64 z] w fun e w' => e = .returned (.func (.func 37) #[] #[.pointer (some ⟨w.heap.size, 0, none⟩), .pointer (some ⟨w.heap.size + 1, 0, none⟩)]) ∧
      w' = (w.alloc (.cells #[.slice a len cap] 49)).alloc (.cells #[.int .i64 z] 3) := by
  have hz2 : ¬ ((z : Int) < 1) := by omega
  refine callsIn_of_wp Tryd.func30 rfl h30 ?_ hro
  simp only [Tryd.ntmps30, List.size_toArray, List.length_cons, List.length_nil, Nat.reduceAdd, Nat.reduceSub, Array.replicate_succ, Array.replicate_zero, List.push_toArray, List.append_toArray, List.nil_append, List.cons_append]
  gi_wp2
  go_ret
  exact ⟨rfl, rfl⟩

theorem chunk_stops (n : Nat) (hn : 1 ≤ n) (Bs Bz b len cap z N : Nat) (hz : 0 < z) (hz2 : z ≤ 4096) (hN : ∀ k, k < N ↔ z * k < len) (hlen : len ≤ 1099511627776) (hcap : len ≤ cap) (w : World)
    (hBs : w.heap[Bs]? = some (.cells #[.slice (some ⟨b, 0, none⟩) len cap] 49 (0, 0))) (hBz : w.heap[Bz]? = some (.cells #[.int .i64 z] 3 (0, 0))) :
    SeqStopsK Fence.wide n Tryd.prog 37 #[.pointer (some ⟨Bs, 0, none⟩), .pointer (some ⟨Bz, 0, none⟩)] (fun x : Fin N => #[pieceV b z len x.1]) (KpB Bs Bz) (fun ys => ys = List.finRange N) (fun _ => True) N w := fun l J Jx W hW hJ _ hY h0 => by
  have h1 := (Array.getElem?_eq_some_iff.1 hBs).1
  have h2 := (Array.getElem?_eq_some_iff.1 hBz).1
  refine (chunk1_in n hn l Bs Bz b len cap z N hz hz2 hN hlen hcap J Jx (fun s W n h => hJ s W (W.drewN n) none h ⟨rfl, rfl, rfl, Nat.le_refl _, fun _ _ _ => rfl⟩ (fun _ e => by cases e)) hY W ((hW.block _ h1).trans hBs) ((hW.block _ h2).trans hBz) h0).mono ?_
  rintro e W' ⟨he, ⟨ys, hys, hj⟩ | ⟨pre, _, hj⟩⟩
  · exact ⟨he, .inl ⟨ys, hys, hj⟩⟩
  · exact ⟨he, .inr ⟨pre, trivial, hj⟩⟩

/-- 'out = append(out, x)' in a loop's body, out in a box: what the walk owes behind it. -/
theorem appended {W w1 : World} {n₀ B : Nat} {t e : TypeId} {size : Nat} {v v' : Value} {k m : Nat} {xs ys : List Value} {tmp : Obj}
    (hv : Boxed W B t v) (hte : t ≠ e) (hrow : W.ownsRow n₀ e size v k xs) (hn₀ : n₀ ≤ W.heap.size)
    (hown' : w1.ownsRow n₀ e size v' m ys) (hgrow : (W.alloc tmp).grownBy w1 v.ownBlock) :
    Boxed w1 B t v ∧ Boxed (w1.setCell ⟨B, 0, none⟩ v') B t v' ∧ (w1.setCell ⟨B, 0, none⟩ v').ownsRow n₀ e size v' m ys ∧ KeepsOthers W (w1.setCell ⟨B, 0, none⟩ v') ∧
      (∀ m, m ≤ n₀ → m ≤ B → Below m W (w1.setCell ⟨B, 0, none⟩ v')) ∧ ∀ i, i < n₀ → i ≠ B → (w1.setCell ⟨B, 0, none⟩ v').heap[i]? = W.heap[i]? := by
  have hv1 : Boxed w1 B t v := (hv.alloc tmp).kept hgrow (hv.not_row hte hrow)
  have hrb : ∀ j, v.ownBlock = some j → n₀ ≤ j := fun j ej => by
    rcases hrow.2 with ⟨rfl, _⟩ | ⟨g, cap, cur, rfl, hb, _, _⟩
    · simp [Value.ownBlock] at ej
    · obtain rfl : g = j := by simpa [Value.ownBlock] using ej
      exact hb
  refine ⟨hv1, hv1.set v', hown'.kept (grownBy_setCell' w1 B v') (.inr (hv1.not_row hte hown').symm), ?_, fun q hq hB => ?_, fun i hi hne => ?_⟩
  · refine ((KeepsOthers.alloc W tmp).trans (KeepsOthers.of_grownBy hgrow fun j o ej hj => ?_)).trans (KeepsOthers.setCell _ _ _)
    rcases (hrow.alloc tmp).2 with ⟨rfl, _⟩ | ⟨g, cap, cur, rfl, _, hgb, _⟩
    · simp [Value.ownBlock] at ej
    · obtain rfl : g = j := by simpa [Value.ownBlock] using ej
      rw [hgb] at hj; cases hj; rfl
  · exact (((Below.refl q W).alloc (by omega) tmp).grown hgrow (by simp; omega) fun j ej => by have := hrb j ej; omega).setCell (p := ⟨B, 0, none⟩) hB v'
  · rw [Below.heap_setCell _ _ _ _ hne, hgrow.block i (by simp; omega) (fun e => by have := hrb i e.symm; omega)]
    exact Below.heap_alloc _ _ _ (by omega)
end Go.Proofs.YtaohfmmapammcaaDoor.Ch

/- chunk.Cut: a new row of the file's chunks; nothing that was there has turned. Conditions: at most 2^40 bytes. -/
set_option linter.unusedSimpArgs false
set_option linter.unusedVariables false
namespace Go.Proofs.YtaohfmmapammcaaDoor.Ch
open Go Go.RowKit Go.Shelf Go.Proofs.YtaohfmmapammcaaDoorW.PrintWords Go.Proofs.YtaohfmmapammcaaDoor.Sha Go.Proofs.YtaohfmmapammcaaDoor.Dig Go.Proofs.YtaohfmmapammcaaDoor.Ev

attribute [local go_sem] Oper.semAt_some

theorem infoStr : (Tryd.prog.info? 9).map (fun i => (i.zero, i.size, i.bytes)) = some (some (.string ⟨#[]⟩), 1, 16) := by kernel_rfl
theorem zeroStrs : (Tryd.prog.info? 35).bind (·.zero) = some (.slice none 0 0) := by kernel_rfl

/-- The bytes of a text, in memory. -/
theorem bytes_of {w : World} {g : Nat} {l : List UInt8} (h : ∀ j, j < l.length → w.cell? ⟨g, j, none⟩ = some (.int .u8 (bAt (bs l) j))) : Lib.Bytes w g 0 (bs l) := fun i hi => by
  have hi' : i < l.length := by simpa [bs, ByteArray.size] using hi
  rw [Nat.zero_add, h i hi']
  have e1 : bAt (bs l) i = ((l[i]'hi').toNat : Int) := by
    show ((l.getD i 0).toNat : Int) = _
    rw [List.getD_eq_getElem?_getD, List.getElem?_eq_getElem hi']
    rfl
  have e2 : ((bs l)[i]'hi) = l[i]'hi' := by
    have e3 : (bs l).data.toList[i]'(by simpa [bs] using hi') = (bs l)[i]'hi := by rw [Array.getElem_toList]; rfl
    rw [← e3]
  rw [e1, e2]
theorem piece_conv {W : World} {g : Nat} {l : List UInt8} (z k : Nat) (h : ∀ j, j < l.length → W.cell? ⟨g, j, none⟩ = some (.int .u8 (bAt (bs l) j))) (hk : z * k < l.length) :
    (convert 49 9 (pieceV g z l.length k)).run Tryd.prog W = .ok (.string (bs (pieceL z l k))) W := by
  have hs0 : (bs l).size = l.length := by simp [bs, ByteArray.size]
  have hm : z * k + min z (l.length - z * k) ≤ (bs l).size := by
    have : (bs l).size = l.length := by simp [bs, ByteArray.size]
    rw [this]; omega
  have := Lib.run_convert_window (P := Tryd.prog) W 49 5 9 Tryd.underlying49 Tryd.underlying5 Tryd.underlying9 g 0 (bs l) (bytes_of h) (z * k) (min z (l.length - z * k)) (min z (l.length - z * k)) hm
  rw [Nat.zero_add] at this
  unfold pieceV
  have e : (bs l).extract (z * k) (z * k + min z (l.length - z * k)) = bs (pieceL z l k) := by
    apply ByteArray.ext
    apply Array.toList_inj.1
    simp only [ByteArray.data_extract, Array.toList_extract, bs, pieceL, List.extract_eq_take_drop]
    rw [show z * k + min z (l.length - z * k) - z * k = min z (l.length - z * k) by omega]
    rcases Nat.le_total z (l.length - z * k) with h1 | h1
    · rw [Nat.min_eq_left h1]
    · rw [Nat.min_eq_right h1, List.take_of_length_le (by simp), List.take_of_length_le (by simp; omega)]
  rw [this, e]

/-- What the loop of Cut holds between two rounds. -/
structure CutI (l : List UInt8) (w : World) (g3 gb B0 N : Nat) (pre : List (Fin N)) (W : World) : Prop where
  row : ∃ v, Boxed W g3 35 v ∧ W.ownsRow B0 9 1 v pre.length (pre.map fun k => .string (bs (pieceL 16 l k.1)))
  bel : Below w.heap.size w W
  cells : ∀ j, j < l.length → W.cell? ⟨gb, j, none⟩ = some (.int .u8 (bAt (bs l) j))
  sz : B0 ≤ W.heap.size
theorem fin_map {α : Type} (N : Nat) (f : Nat → α) : (List.finRange N).map (fun k => f k.1) = (List.range N).map f := by
  apply List.ext_getElem
  · simp
  · intro i h1 h2
    simp
theorem cutI_own (l : List UInt8) (w : World) (g3 gb B0 N B : Nat) (hB : w.heap.size ≤ B) : OwnFrom B (fun (pre : List (Fin N)) W => CutI l w g3 gb B0 N pre W) := fun s W W' row hs hg hr => by
  have h1 := (Own.from (holdsRow_own B0 g3 35 9 1 (fun (pre : List (Fin N)) => pre.length) (fun pre => pre.map fun k => .string (bs (pieceL 16 l k.1))) (fun _ _ => True)) B) s W W' row
  obtain ⟨v, a, b⟩ := hs.row
  obtain ⟨v', a', b', _⟩ := h1 ⟨v, a, b, trivial⟩ hg hr
  exact ⟨⟨v', a', b'⟩, ownFrom_below (β := List (Fin N)) (Nat.le_refl _) hB s W W' row hs.bel hg hr, fun j hj => cell_kept (hs.cells j hj) hg (fun r e => (hr r e).2), Nat.le_trans hs.sz hg.size⟩

set_option maxRecDepth 100000 in
set_option maxHeartbeats 4000000 in
theorem cut_any (l : List UInt8) (hl : l.length ≤ 1099511627776) (w : World) :
    Calls Tryd.prog 18 #[.string (bs l)] w fun e W' => ∃ v, e = .returned v ∧ W'.ownsRow w.heap.size 9 1 v (cutL l).length ((cutL l).map fun c => .string (bs c)) ∧ Below w.heap.size w W' := by
  have hsz : (bs l).size = l.length := by simp [bs, ByteArray.size]
  have HSZ := Kp.mk hsz
  have HN : Kp (∀ k, k < cutN 16 l ↔ 16 * k < l.length) := ⟨cutN_lt 16 (by decide) l⟩
  obtain ⟨N, hNN⟩ : ∃ N, N = cutN 16 l := ⟨_, rfl⟩
  have HNN := Kp.mk hNN
  have hNb : N ≤ 1099511627776 := by rw [hNN]; unfold cutN; omega
  rw [← hNN] at HN
  clear hsz hNN
  refine (callsIn_wide (n := 9)).1 ?_
  refine callsIn_of_wp_marks Tryd.func18 rfl trivial ?_ rfl
  simp only [Tryd.ntmps18, List.size_toArray, List.length_cons, List.length_nil, Nat.reduceAdd, Nat.reduceSub, Array.replicate_succ, Array.replicate_zero, List.push_toArray, List.append_toArray, List.nil_append, List.cons_append]
  refine wpIn_wide.2 ?_
  go_wp2_with (first
    | ((with_reducible refine gate_dst (N := 3) rfl ?_); refine ev_alloc rfl 35 rfl _ [.slice none 0 0] zeroStrs rfl ?_; intro g3 w1 hg3 f1 b3)
    | ((with_reducible refine gate_dst (N := 6) rfl ?_); refine ev_bytes rfl 9 49 (.tmp 5) rfl (bs l) rfl 5 Tryd.underlying9 Tryd.underlying49 Tryd.underlying5 ?_; intro gb cb w2 hgb hgb2 hcb f2 cbs)
    | (go_at_call 30; refine ((callsIn_wide (n := 8)).1 (chunk_in Fence.wide 8 trivial rfl _ _ _ 16 (by decide) _)).mono ?_; rintro e w3 ⟨rfl, rfl⟩))
  have hlen2 : w2.heap.size < w2.heap.size + 1 + 1 := by omega
  have hg3w2 : g3 < w2.heap.size := Nat.lt_of_lt_of_le b3.lt f2.size
  have hw2 : w.heap.size ≤ w2.heap.size := Nat.le_trans f1.size f2.size
  have HS1 : ((w2.alloc (.cells #[.slice (some ⟨gb, 0, none⟩) l.length cb] 49)).alloc (.cells #[.int .i64 16] 3)).heap[w2.heap.size]? = some (.cells #[.slice (some ⟨gb, 0, none⟩) l.length cb] 49 (0, 0)) :=
    (Below.heap_alloc _ _ _ (by simp)).trans (World.alloc_heap_new w2 _)
  have HS2 : ((w2.alloc (.cells #[.slice (some ⟨gb, 0, none⟩) l.length cb] 49)).alloc (.cells #[.int .i64 16] 3)).heap[w2.heap.size + 1]? = some (.cells #[.int .i64 16] 3 (0, 0)) := by
    have := World.alloc_heap_new (w2.alloc (.cells #[.slice (some ⟨gb, 0, none⟩) l.length cb] 49)) (.cells #[.int .i64 16] 3)
    rwa [World.size_alloc] at this
  have F3 : Fr No w2 ((w2.alloc (.cells #[.slice (some ⟨gb, 0, none⟩) l.length cb] 49)).alloc (.cells #[.int .i64 16] 3)) := (Fr.alloc _ _).no (Fr.alloc _ _)
  have HZ : ((w2.alloc (.cells #[.slice (some ⟨gb, 0, none⟩) l.length cb] 49)).alloc (.cells #[.int .i64 16] 3)).heap.size = w2.heap.size + 1 + 1 := by simp
  generalize hW3 : (w2.alloc (.cells #[.slice (some ⟨gb, 0, none⟩) l.length cb] 49)).alloc (.cells #[.int .i64 16] 3) = w3 at HS1 HS2 F3 HZ ⊢
  clear hW3
  have I0 : CutI l w g3 gb w3.heap.size N [] w3 :=
    ⟨⟨_, ((b3.no f2).no F3).out, World.ownsRow_nil _ _ _ _⟩, ((f1.no f2).no F3).below, fun j hj => Fr.cell (cbs j (by rw [HSZ.out]; exact hj)) F3 (fun h => h), Nat.le_refl _⟩
  have hcap : l.length ≤ cb := by have := HSZ.out; omega
  have H1 := chunk_stops 8 (by decide) w2.heap.size (w2.heap.size + 1) gb l.length cb 16 N (by decide) (by decide) HN.out hl hcap w3 HS1 HS2
  have hg3' : g3 < w3.heap.size := by omega
  have hgb' : gb < w3.heap.size := by omega
  have hne : g3 ≠ gb := by have := b3.lt; omega
  have hw3 : w.heap.size ≤ w3.heap.size := by omega
  have K0 := Kp.mk (KpB.b (Bs := w2.heap.size) (Bz := w2.heap.size + 1) (w := w3) (by omega) (by omega))
  clear f1 f2 F3 b3 cbs hcb HS1 HS2
  obtain ⟨i0, hi, hz0, hz1, hz2⟩ := info_parts infoStr
  refine (wpIn_wide (n := 9)).1 ?_
  refine wpIn_rangeFunc_ownG (n := 9) (α := Fin N) rfl (by decide) (gf := 37) (lb := #[.pointer (some ⟨w2.heap.size, 0, none⟩), .pointer (some ⟨w2.heap.size + 1, 0, none⟩)]) rfl trivial (enters_of Tryd.func37 (by kernel_rfl) rfl)
    H1 KpB.t K0.out (Below.refl _ _) (fun _ => rfl)
    (CutI l w g3 gb w3.heap.size N) (fun _ _ _ => False) (cutI_own l w g3 gb w3.heap.size N w3.heap.size hw3) (fun _ _ _ _ _ hs _ _ => hs) I0
    (fun x => { tmps := #[.string (bs l), undef, .slice none 0 0, .pointer (some ⟨g3, 0, none⟩), pieceV gb 16 l.length x.1, .string (bs l), .slice (some ⟨gb, 0, none⟩) l.length cb, .func (.func 37) #[] #[.pointer (some ⟨w2.heap.size, 0, none⟩), .pointer (some ⟨w2.heap.size + 1, 0, none⟩)], pieceV gb 16 l.length x.1, undef, undef, undef, undef, undef, undef], defers := [] }) ?assign ?body ?done ?stop
  case assign =>
    intro q x W K hK
    gi_wp2
    exact hK
  case body =>
    rintro q pre x W hI hlt
    obtain ⟨v, hv, hrow⟩ := hI.row
    have hc := hv.cell
    have hcv := piece_conv 16 x.1 hI.cells ((HN.out x.1).1 x.2)
    have hle := hI.sz
    have hpl : pre.length ≤ 1099511627776 := by omega
    gi_wp2_with (gi_at_builtin; refine wpListIn_append_own _ rfl _ _ 35 rfl w3.heap.size 9 i0 (.string ⟨#[]⟩) 1 16 Tryd.underlying35 hi hz0 hz1 hz2 rfl (by decide) _ _ _ rfl (hrow.alloc _) ⟨W.heap.size, 0, none⟩ 1 1 [.string (bs (pieceL 16 l x.1))] rfl rfl (cell_one_new _ _ _) (by simp [Value.oneCell']) (by simp only [maxLen]; omega) (by omega) (by simp; omega) ?_; intro v' w1 hown' hgrow _; obtain ⟨g', cap', rfl⟩ := ownsRow_succ hown'; obtain ⟨hv1, hv2, hr2, hk2, hb2, hb3⟩ := appended hv (by decide) hrow hle hown' hgrow; have hc1 := hv1.cell; have hf1 := hv1.frozen)
    exact ⟨hk2.from _, ⟨hb3 _ (by omega) (by omega), hb3 _ (by omega) (by omega)⟩, ⟨⟨_, hv2, by simpa using hr2⟩, hI.bel.trans (hb2 _ hw3 hg3), fun j hj => (World.cell?_of_block (hb3 gb hgb' (Ne.symm hne))).trans (hI.cells j hj), Nat.le_trans hle hk2.size⟩⟩
  case done =>
    rintro D ys W hD rfl hI hK
    obtain ⟨v, hv, hrow⟩ := hI.row
    have hc := hv.cell
    go_wp2
    refine ⟨by simp, .inl ⟨_, _, rfl, run_takeDeferred hK, ?_⟩⟩
    refine ⟨_, results_tmp rfl _ _ _, v, rfl, ?_, hI.bel.trans (belowK_b (w := w) (Nat.le_refl _) W D _ _ (by omega) hK rfl rfl)⟩
    have h1 := own_le (ownsRow_putObj hrow (.deferred none) hK rfl) hw3
    rw [fin_map N (fun k => Value.string (bs (pieceL 16 l k)))] at h1
    rw [cutZ_len, ← HNN.out]
    simp only [cutL, cutZ, List.map_map, ← HNN.out]
    simpa [Function.comp_def] using h1
  case stop =>
    rintro D c pre W _ _ h _
    exact h.elim
end Go.Proofs.YtaohfmmapammcaaDoor.Ch

/- chunk.Put, Trunc, Get, Copy: what they answer. Conditions: sizes are bounded, as written out. -/
set_option linter.unusedSimpArgs false
set_option linter.unusedVariables false
namespace Go.Proofs.YtaohfmmapammcaaDoor.Ch
open Go Go.RowKit Go.Proofs.YtaohfmmapammcaaDoorW.PrintWords Go.Proofs.YtaohfmmapammcaaDoor.Sha Go.Proofs.YtaohfmmapammcaaDoor.Dig Go.Proofs.YtaohfmmapammcaaDoor.Ev

theorem ext_bs (l : List UInt8) (a b : Nat) : (bs l).extract a b = bs ((l.drop a).take (b - a)) := by
  apply ByteArray.ext
  apply Array.toList_inj.1
  simp [ByteArray.data_extract, Array.toList_extract, List.extract_eq_take_drop]
theorem rep_gen (k : Int) (h0 : 0 ≤ k) (h1 : k ≤ 1099511627776) (w : World) :
    Calls Tryd.prog 36 #[.string ⟨#[0]⟩, .int .i64 k] w fun e w' => e = .returned (.string (bs (List.replicate k.toNat 0))) ∧ Below w.heap.size w w' := by
  obtain ⟨c, rfl⟩ := Int.eq_ofNat_of_zero_le h0
  have hr : ∀ c, Lib.repeatL [0] c = List.replicate c 0 := fun c => by
    induction c with
    | zero => rfl
    | succ c ih => simp [Lib.repeatL, ih, List.replicate_succ]
  have h2 : (⟨#[0]⟩ : ByteArray).size = 1 := rfl
  have := Tryd.strings_Repeat ⟨#[0]⟩ c w (by omega) (by rw [h2]; omega)
  rw [show (⟨#[0]⟩ : ByteArray).data.toList = [0] from rfl, hr] at this
  exact this
set_option maxHeartbeats 1000000 in
theorem noughts_any (n : Int) (h1 : n ≤ 1099511627776) (w : World) :
    Calls Tryd.prog 29 #[.int .i64 n] w fun e w' => e = .returned (.string (bs (zerosL n))) ∧ Fr No w w' := by
  have h2 : 0 ≤ max n 0 := by omega
  have h3 : max n 0 ≤ 1099511627776 := by omega
  go_enter Tryd.func29, Tryd.ntmps29
  go_wp2_with (go_at_call 36; refine (rep_gen _ h2 h3 _).mono ?_; rintro e w2 ⟨rfl, hb⟩)
  go_ret
  exact ⟨by rw [show (max n 0).toNat = n.toNat by omega]; rfl, Fr.of_below hb⟩

theorem drop_min (F : List UInt8) (x : Nat) (m : Nat) (hm : m = min F.length x) : F.drop m = F.drop x := by
  subst hm
  rcases Nat.le_total F.length x with h | h
  · rw [Nat.min_eq_left h, List.drop_of_length_le (Nat.le_refl _), List.drop_of_length_le h]
  · rw [Nat.min_eq_right h]
theorem put_fin (F d : List UInt8) (o : Nat) : (bs F).extract 0 o ++ bs d ++ (bs F).extract (min (F.length : Int) ((o : Int) + (d.length : Int))).toNat F.length = bs (F.take o ++ d ++ F.drop (o + d.length)) := by
  have e1 : (bs F).extract 0 o = bs (F.take o) := by rw [ext_bs, List.drop_zero, Nat.sub_zero]
  have e2 : (bs F).extract (min (F.length : Int) ((o : Int) + (d.length : Int))).toNat F.length = bs (F.drop (o + d.length)) := by
    rw [ext_bs, drop_min F (o + d.length) _ (by omega), List.take_of_length_le (by rw [List.length_drop]; omega)]
  rw [e1, e2, bs_append, bs_append]
theorem get_fin (s : List UInt8) (off n : Int) (h0 : 0 ≤ off) (h1 : 0 ≤ n) :
    ((bs s).extract (min off (s.length : Int)).toNat s.length).extract 0 (min n ((s.length - (min off (s.length : Int)).toNat : Nat) : Int)).toNat = bs ((s.drop off.toNat).take n.toNat) := by
  have e1 : (bs s).extract (min off (s.length : Int)).toNat s.length = bs (s.drop off.toNat) := by
    rw [ext_bs, drop_min s off.toNat _ (by omega), List.take_of_length_le (by rw [List.length_drop]; omega)]
  rw [e1, ext_bs, List.drop_zero, Nat.sub_zero]
  have e2 : (s.drop off.toNat).take (min n ((s.length - (min off (s.length : Int)).toNat : Nat) : Int)).toNat = (s.drop off.toNat).take n.toNat := by
    rcases Nat.le_total n.toNat (s.drop off.toNat).length with h | h
    · rw [List.length_drop] at h
      rw [show (min n ((s.length - (min off (s.length : Int)).toNat : Nat) : Int)).toNat = n.toNat by omega]
    · rw [List.take_of_length_le h, List.take_of_length_le]
      rw [List.length_drop] at h ⊢
      omega
  rw [e2]

set_option maxHeartbeats 4000000 in
theorem put_any (s : List UInt8) (off : Int) (d : List UInt8) (hs : s.length ≤ 4294967296) (hd : d.length ≤ 4294967296) (w : World) :
    Calls Tryd.prog 9 #[.string (bs s), .int .i64 off, .string (bs d)] w fun e w' => e = .returned (.tuple #[.string (bs (putL s off d).1), .int .i64 (putL s off d).2]) ∧ Fr No w w' := by
  have hsz : (bs s).size = s.length := bs_size s
  have hdz : (bs d).size = d.length := bs_size d
  by_cases h1 : off < 0
  · have hp : putL s off d = ([], 1) := by unfold putL; rw [if_pos h1]
    rw [hp]
    clear hp
    go_enter Tryd.func9, Tryd.ntmps9
    go_wp2_with fail
    go_ret2
    exact ⟨rfl, Fr.refl _ _⟩
  by_cases h2 : 4096 < off
  · have hp : putL s off d = ([], 3) := by unfold putL; rw [if_neg h1, if_pos h2]
    rw [hp]
    clear hp
    go_enter Tryd.func9, Tryd.ntmps9
    go_wp2_with fail
    go_ret2
    exact ⟨rfl, Fr.refl _ _⟩
  have h2' : off ≤ 4096 := by omega
  have h1' : 0 ≤ off := by omega
  by_cases h3 : 4096 - off < (d.length : Int)
  · have hp : putL s off d = ([], 3) := by unfold putL; rw [if_neg h1, if_neg h2, if_pos h3]
    rw [hp]
    clear hp
    go_enter Tryd.func9, Tryd.ntmps9
    go_wp2_with fail
    go_ret2
    exact ⟨rfl, Fr.refl _ _⟩
  have h3' : (d.length : Int) ≤ 4096 - off := by omega
  by_cases h4 : d = []
  · have hp : putL s off d = (s, 0) := by unfold putL; rw [if_neg h1, if_neg h2, if_neg h3, if_pos h4]
    rw [hp]
    subst h4
    clear hp
    go_enter Tryd.func9, Tryd.ntmps9
    go_wp2_with fail
    go_ret2
    exact ⟨rfl, Fr.refl _ _⟩
  · have hp : putL s off d = ((fullL s off).take off.toNat ++ d ++ (fullL s off).drop (off.toNat + d.length), 0) := by unfold putL; rw [if_neg h1, if_neg h2, if_neg h3, if_neg h4]
    rw [hp]
    have h4' : d.isEmpty = false := by cases d with | nil => exact absurd rfl h4 | cons _ _ => rfl
    obtain ⟨o, rfl⟩ := Int.eq_ofNat_of_zero_le h1'
    have hfl := fullL_len s (o : Int)
    have hap : bs s ++ bs (zerosL ((o : Int) - (s.length : Int))) = bs (fullL s (o : Int)) := bs_append _ _
    generalize fullL s (o : Int) = F at hap hfl ⊢
    have hF : F.length ≤ 4294971392 := by omega
    have hzl : (zerosL ((o : Int) - (s.length : Int))).length ≤ 4096 := by rw [zerosL_len]; omega
    have hoF : o ≤ F.length := by omega
    clear hp hfl h1 h2 h3
    go_enter Tryd.func9, Tryd.ntmps9
    go_wp2_with (go_at_call 29; refine (noughts_any _ (by omega) _).mono ?_; rintro e w2 ⟨rfl, f2⟩)
    go_ret2
    refine ⟨?_, f2⟩
    rw [put_fin]
    rfl

set_option maxHeartbeats 4000000 in
theorem trunc_any (s : List UInt8) (size : Int) (hs : s.length ≤ 4294967296) (w : World) :
    Calls Tryd.prog 11 #[.string (bs s), .int .i64 size] w fun e w' => e = .returned (.tuple #[.string (bs (truncL s size).1), .int .i64 (truncL s size).2]) ∧ Fr No w w' := by
  have hsz : (bs s).size = s.length := bs_size s
  by_cases h1 : size < 0
  · have hp : truncL s size = ([], 1) := by unfold truncL; rw [if_pos h1]
    rw [hp]
    clear hp
    go_enter Tryd.func11, Tryd.ntmps11
    go_wp2_with fail
    go_ret2
    exact ⟨rfl, Fr.refl _ _⟩
  by_cases h2 : 4096 < size
  · have hp : truncL s size = ([], 3) := by unfold truncL; rw [if_neg h1, if_pos h2]
    rw [hp]
    clear hp
    go_enter Tryd.func11, Tryd.ntmps11
    go_wp2_with fail
    go_ret2
    exact ⟨rfl, Fr.refl _ _⟩
  · have hp : truncL s size = ((fullL s size).take size.toNat, 0) := by unfold truncL; rw [if_neg h1, if_neg h2]
    rw [hp]
    have h2' : size ≤ 4096 := by omega
    have h1' : 0 ≤ size := by omega
    obtain ⟨o, rfl⟩ := Int.eq_ofNat_of_zero_le h1'
    have hfl := fullL_len s (o : Int)
    have hap : bs s ++ bs (zerosL ((o : Int) - (s.length : Int))) = bs (fullL s (o : Int)) := bs_append _ _
    generalize fullL s (o : Int) = F at hap hfl ⊢
    have hF : F.length ≤ 4294971392 := by omega
    have hzl : (zerosL ((o : Int) - (s.length : Int))).length ≤ 4096 := by rw [zerosL_len]; omega
    have hoF : o ≤ F.length := by omega
    clear hp hfl h1 h2
    go_enter Tryd.func11, Tryd.ntmps11
    go_wp2_with (go_at_call 29; refine (noughts_any _ (by omega) _).mono ?_; rintro e w2 ⟨rfl, f2⟩)
    go_ret2
    refine ⟨?_, f2⟩
    rw [ext_bs, List.drop_zero, Nat.sub_zero]
    rfl

set_option maxHeartbeats 4000000 in
theorem get_any (s : List UInt8) (off n : Int) (hs : s.length ≤ 4294967296) (hb : off ≤ 9223372036854775807) (hn : n ≤ 9223372036854775807) (w : World) :
    Calls Tryd.prog 13 #[.string (bs s), .int .i64 off, .int .i64 n] w fun e w' => e = .returned (.tuple #[.string (bs (getL s off n).1), .int .i64 (getL s off n).2]) ∧ Fr No w w' := by
  have hsz : (bs s).size = s.length := bs_size s
  by_cases h1 : off < 0
  · have hp : getL s off n = ([], 1) := by unfold getL; rw [if_pos h1]
    rw [hp]
    clear hp hb hn
    go_enter Tryd.func13, Tryd.ntmps13
    go_wp2_with fail
    go_ret2
    exact ⟨rfl, Fr.refl _ _⟩
  by_cases h2 : n < 0
  · have hp : getL s off n = ([], 1) := by unfold getL; rw [if_neg h1, if_pos h2]
    rw [hp]
    have h1' : 0 ≤ off := by omega
    clear hp hb hn h1
    go_enter Tryd.func13, Tryd.ntmps13
    go_wp2_with fail
    go_ret2
    exact ⟨rfl, Fr.refl _ _⟩
  · have hp : getL s off n = ((s.drop off.toNat).take n.toNat, 0) := by unfold getL; rw [if_neg h1, if_neg h2]
    rw [hp]
    have h2' : 0 ≤ n := by omega
    have h1' : 0 ≤ off := by omega
    have m1 : 0 ≤ min off (s.length : Int) := by omega
    have m2 : min off (s.length : Int) ≤ (s.length : Int) := by omega
    have m3 : (s.length : Int) ≤ 4294967296 := by omega
    clear hp h1 h2 hb hn
    go_enter Tryd.func13, Tryd.ntmps13
    go_wp2_with fail
    go_ret2
    exact ⟨by rw [get_fin s off n h1' h2']; rfl, Fr.refl _ _⟩

set_option maxHeartbeats 4000000 in
set_option maxRecDepth 100000 in
theorem copy_chunk_any (s : List UInt8) (off : Int) (src : List UInt8) (fr n : Int) (hs : s.length ≤ 4294967296) (hd : src.length ≤ 4294967296) (hb : fr ≤ 9223372036854775807) (hn : n ≤ 9223372036854775807) (w : World) :
    Calls Tryd.prog 15 #[.string (bs s), .int .i64 off, .string (bs src), .int .i64 fr, .int .i64 n] w fun e w' => e = .returned (.tuple #[.string (bs (copyL s off src fr n).1), .int .i64 (copyL s off src fr n).2]) ∧ Fr No w w' := by
  have hsz : (bs s).size = s.length := bs_size s
  have hdz : (bs src).size = src.length := bs_size src
  have bad : copyL s off src fr n = ([], 1) → (fr < 0 ∨ n < 0 ∨ (src.length : Int) < fr ∨ (0 ≤ fr ∧ fr ≤ (src.length : Int) ∧ (src.length : Int) - fr < n)) → Calls Tryd.prog 15 #[.string (bs s), .int .i64 off, .string (bs src), .int .i64 fr, .int .i64 n] w fun e w' => e = .returned (.tuple #[.string (bs (copyL s off src fr n).1), .int .i64 (copyL s off src fr n).2]) ∧ Fr No w w' := by
    intro hp hc
    rw [hp]
    clear hp
    by_cases c1 : fr < 0
    · clear hb hn hc
      go_enter Tryd.func15, Tryd.ntmps15
      go_wp2_with fail
      go_ret2
      exact ⟨rfl, Fr.refl _ _⟩
    have c1' : 0 ≤ fr := by omega
    by_cases c2 : n < 0
    · clear hb hn c1 hc
      go_enter Tryd.func15, Tryd.ntmps15
      go_wp2_with fail
      go_ret2
      exact ⟨rfl, Fr.refl _ _⟩
    have c2' : 0 ≤ n := by omega
    by_cases c3 : (src.length : Int) < fr
    · clear hb hn c1 c2 hc
      go_enter Tryd.func15, Tryd.ntmps15
      go_wp2_with fail
      go_ret2
      exact ⟨rfl, Fr.refl _ _⟩
    have c3' : fr ≤ (src.length : Int) := by omega
    have c4 : (src.length : Int) - fr < n := by omega
    clear hb hn c1 c2 c3 hc
    go_enter Tryd.func15, Tryd.ntmps15
    go_wp2_with fail
    go_ret2
    exact ⟨rfl, Fr.refl _ _⟩
  by_cases c1 : fr < 0
  · exact bad (by unfold copyL; rw [if_pos c1]) (.inl c1)
  by_cases c2 : n < 0
  · exact bad (by unfold copyL; rw [if_neg c1, if_pos c2]) (.inr (.inl c2))
  by_cases c3 : (src.length : Int) < fr
  · exact bad (by unfold copyL; rw [if_neg c1, if_neg c2, if_pos c3]) (.inr (.inr (.inl c3)))
  by_cases c4 : (src.length : Int) - fr < n
  · exact bad (by unfold copyL; rw [if_neg c1, if_neg c2, if_neg c3, if_pos c4]) (.inr (.inr (.inr ⟨by omega, by omega, c4⟩)))
  have hp : copyL s off src fr n = putL s off ((src.drop fr.toNat).take n.toNat) := by unfold copyL; rw [if_neg c1, if_neg c2, if_neg c3, if_neg c4]
  rw [hp]
  obtain ⟨f, rfl⟩ := Int.eq_ofNat_of_zero_le (by omega : 0 ≤ fr)
  obtain ⟨m, rfl⟩ := Int.eq_ofNat_of_zero_le (by omega : 0 ≤ n)
  have hfm : f + m ≤ src.length := by omega
  have c3' : (f : Int) ≤ (src.length : Int) := by omega
  have c4' : (m : Int) ≤ (src.length : Int) - (f : Int) := by omega
  have c5 : (f : Int) ≤ (f : Int) + (m : Int) := by omega
  have c6 : (f : Int) + (m : Int) ≤ (src.length : Int) := by omega
  have c7 : (0 : Int) ≤ (f : Int) + (m : Int) := by omega
  have hD : (src.drop f).take m = (src.drop (Int.toNat (f : Int))).take (Int.toNat (m : Int)) := rfl
  rw [← hD]
  have he : (bs src).extract f (f + m) = bs ((src.drop f).take m) := by rw [ext_bs, Nat.add_sub_cancel_left]
  have CP := Kp.mk (put_any s off ((src.drop f).take m) hs (by simp; omega))
  generalize putL s off ((src.drop f).take m) = R at CP ⊢
  generalize (src.drop f).take m = D at CP he
  clear hp bad hD c1 c2 c3 c4 hb hn
  go_enter Tryd.func15, Tryd.ntmps15
  go_wp2_with (go_at_call 9; refine (CP.out _).mono ?_; rintro e w2 ⟨rfl, f2⟩)
  go_ret2
  exact ⟨rfl, f2⟩
end Go.Proofs.YtaohfmmapammcaaDoor.Ch

/- chunk.Name, chunk.Names. Conditions: sizes are bounded, as written out. -/
set_option linter.unusedSimpArgs false
set_option linter.unusedVariables false
namespace Go.Proofs.YtaohfmmapammcaaDoor.Ch
open Go Go.RowKit Go.Proofs.YtaohfmmapammcaaDoorW.PrintWords Go.Proofs.YtaohfmmapammcaaDoor.Sha Go.Proofs.YtaohfmmapammcaaDoor.Dig Go.Proofs.YtaohfmmapammcaaDoor.Ev

theorem dw_nil {p : UInt8 → Bool} : ∀ {l : List UInt8}, (∀ x ∈ l, p x = true) → l.dropWhile p = []
  | [], _ => rfl
  | a :: l, h => by
    rw [List.dropWhile_cons, if_pos (h a (by simp))]
    exact dw_nil (fun x hx => h x (by simp [hx]))
theorem dw_self {p : UInt8 → Bool} : ∀ {l : List UInt8}, (∀ x ∈ l.dropWhile p, p x = true) → ∀ x ∈ l, p x = true
  | [], _, x, hx => by cases hx
  | a :: l, h, x, hx => by
    rw [List.dropWhile_cons] at h
    by_cases hp : p a = true
    · rw [if_pos hp] at h
      rcases List.mem_cons.1 hx with rfl | hx
      · exact hp
      · exact dw_self h x hx
    · rw [if_neg hp] at h
      exact absurd (h a (by simp)) hp
theorem dw_all {p : UInt8 → Bool} : ∀ {l : List UInt8}, l.dropWhile p = [] → ∀ x ∈ l, p x = true := fun h => dw_self (by rw [h]; simp)
theorem trim_nil (l : List UInt8) : Lib.trimB l 0 = [] ↔ (l.all (· == 0)) = true := by
  unfold Lib.trimB Lib.trimLeftB Lib.trimRightB
  rw [List.all_eq_true]
  constructor
  · intro h x hx
    have h1 := dw_all h
    exact dw_self (p := (· == 0)) (l := l.reverse) (fun y hy => h1 y (by simpa using hy)) x (by simpa using hx)
  · intro h
    have h1 : l.reverse.dropWhile (· == 0) = [] := dw_nil (fun x hx => h x (by simpa using hx))
    rw [h1]
    rfl

theorem strs_blk {w : World} {g : Nat} {xs : List ByteArray} (h : Blk w g 9 (xs.map Value.string)) (hx : xs.length ≤ 1099511627776) : Strs w (some ⟨g, 0, none⟩) xs := by
  obtain ⟨A, c, hv, _, hC⟩ := own_strs (xs := xs) (h.owns (size := 1) (n := xs.length) (base := 0) (by simp) (by simp only [maxLen]; omega) (Nat.zero_le _)) rfl
  injection hv with h1 h2 h3
  rw [← h1] at hC
  exact hC

set_option maxHeartbeats 2000000 in
theorem name_any (c : List UInt8) (hl : c.length ≤ 1099511627776) (w : World) :
    Calls Tryd.prog 26 #[.string (bs c)] w fun e w' => e = .returned (.string (bs (nameL c))) ∧ Fr No w w' := by
  have hsz : (bs c).size = c.length := bs_size c
  have hcat : cat [bs c] = c := by simp [cat]
  have CT : Kp (∀ W, Calls Tryd.prog 34 #[.string (bs c), .string ⟨#[0]⟩] W fun e w' => e = .returned (.string (bs (Lib.trimB c 0))) ∧ Fr No W w') := ⟨fun W =>
    (Tryd.strings_Trim_one (bs c) 0 (by decide) W (by rw [hsz]; omega)).mono fun e w' ⟨h1, h2⟩ => ⟨h1, h2.elim (fun h => by rw [h]; exact Fr.refl _ _) (fun h => by rw [h]; exact (Fr.refl _ _).drew)⟩⟩
  by_cases hz : (c.all (· == 0)) = true
  · have hn : nameL c = [] := by unfold nameL; rw [if_pos hz]
    have ht := (trim_nil c).2 hz
    rw [hn]
    rw [ht] at CT
    clear hn ht hz hcat
    go_enter Tryd.func26, Tryd.ntmps26
    go_wp2_with (go_at_call 34; refine (CT.out _).mono ?_; rintro e w2 ⟨rfl, f2⟩)
    go_ret
    exact ⟨rfl, f2⟩
  · have hn : nameL c = sumL c := by unfold nameL; rw [if_neg hz]
    have ht : Lib.trimB c 0 ≠ [] := fun h => hz ((trim_nil c).1 h)
    have CS : Kp (∀ W g, Blk W g 9 [.string (bs c)] → Calls Tryd.prog 35 #[.slice (some ⟨g, 0, none⟩) 1 1] W fun e w' => e = .returned (.string (bs (sumL c))) ∧ Fr No W w') := ⟨fun W g hb => by
      have := sum_any (some ⟨g, 0, none⟩) 1 [bs c] W (strs_blk (by simpa using hb) (by simp)) (by simp) (by rw [hcat]; exact hl) (by simp)
      rw [hcat] at this
      exact this.mono fun e w' ⟨h1, h2⟩ => ⟨h1, Fr.of_below h2⟩⟩
    rw [hn]
    obtain ⟨T, hT⟩ : ∃ T, T = Lib.trimB c 0 := ⟨_, rfl⟩
    rw [← hT] at CT ht
    have ht2 : T.isEmpty = false := by cases T with | nil => exact absurd rfl ht | cons _ _ => rfl
    clear hn hz hcat hT
    go_enter Tryd.func26, Tryd.ntmps26
    go_wp2_with (first
      | (go_at_call 34; refine (CT.out _).mono ?_; rintro e w2 ⟨rfl, f2⟩)
      | ((with_reducible refine gate_dst (N := 7) rfl ?_); refine ev_lit rfl 9 [.string (bs c)] 1 (by first | (go_simp; done) | (go_simp; rfl)) ?_; intro g7 w3 hg7 f3 b7)
      | (go_at_call 35; refine (CS.out _ _ b7).mono ?_; rintro e w4 ⟨rfl, f4⟩))
    go_ret
    exact ⟨rfl, (f2.no f3).no f4⟩

/-- The first i chunks named, the others as they are. -/
def halfN (l : List UInt8) (i : Nat) : List (List UInt8) := (namesL l).take i ++ (cutL l).drop i
theorem namesL_len (l : List UInt8) : (namesL l).length = (cutL l).length := by simp [namesL]
theorem halfN_len (l : List UInt8) (i : Nat) (h : i ≤ (cutL l).length) : (halfN l i).length = (cutL l).length := by
  simp [halfN, namesL_len]; omega
theorem halfN_get (l : List UInt8) (i : Nat) (h : i < (cutL l).length) : (halfN l i)[i]? = some ((cutL l)[i]) := by
  have hl : ((namesL l).take i).length = i := by rw [List.length_take, namesL_len]; omega
  unfold halfN
  rw [List.getElem?_append_right (by omega), hl, Nat.sub_self, List.getElem?_drop, Nat.add_zero, List.getElem?_eq_getElem h]
theorem halfN_set (l : List UInt8) (i : Nat) (h : i < (cutL l).length) : (halfN l i).set i (nameL (cutL l)[i]) = halfN l (i + 1) := by
  have hl : ((namesL l).take i).length = i := by rw [List.length_take, namesL_len]; omega
  unfold halfN
  rw [List.set_append, if_neg (by omega), hl, Nat.sub_self, List.drop_eq_getElem_cons h, List.set_cons_zero, List.take_add_one, List.append_assoc]
  congr 1
  rw [namesL, List.getElem?_map, List.getElem?_eq_getElem h]
  rfl
theorem halfN_zero (l : List UInt8) : halfN l 0 = cutL l := by simp [halfN]
theorem halfN_all (l : List UInt8) : halfN l (cutL l).length = namesL l := by
  unfold halfN
  rw [List.take_of_length_le (by rw [namesL_len]; exact Nat.le_refl _), List.drop_of_length_le (Nat.le_refl _), List.append_nil]
abbrev vals (xs : List (List UInt8)) : List Value := xs.map fun c => .string (bs c)
theorem vals_get (xs : List (List UInt8)) (i : Nat) : (vals xs)[i]? = (xs[i]?).map fun c => .string (bs c) := by simp [vals]
theorem cut_size (l : List UInt8) (hl : l.length ≤ 1099511627776) (i : Nat) (h : i < (cutL l).length) : ((cutL l)[i]).length ≤ 16 := by
  have : (cutL l)[i] = pieceL 16 l i := by simp [cutL, cutZ]
  rw [this, pieceL_len]; omega

set_option maxHeartbeats 4000000 in
theorem names_any (l : List UInt8) (hl : l.length ≤ 1099511627776) (w : World) :
    Calls Tryd.prog 20 #[.string (bs l)] w fun e w' => ∃ v, e = .returned v ∧ w'.ownsRow w.heap.size 9 1 v (namesL l).length (vals (namesL l)) ∧ Fr No w w' := by
  have hsz : (bs l).size = l.length := bs_size l
  have HN : Kp ((namesL l).length = (cutL l).length) := ⟨namesL_len l⟩
  have hNb : (cutL l).length ≤ 1099511627776 := by rw [cutZ_len]; unfold cutN; omega
  have CC : Kp (∀ W, Calls Tryd.prog 18 #[.string (bs l)] W fun e W' => ∃ A c, e = .returned (.slice A (cutL l).length c) ∧ W'.ownsRow W.heap.size 9 1 (.slice A (cutL l).length c) (cutL l).length (vals (halfN l 0)) ∧ Fr No W W') := ⟨fun W => (cut_any l hl W).mono fun e W' ⟨v, he, ho, hb⟩ => by
    obtain ⟨A, c, rfl⟩ := own_slice ho
    exact ⟨A, c, he, by rw [halfN_zero]; exact ho, Fr.of_below hb⟩⟩
  rw [HN.out]
  obtain ⟨N, hN⟩ : ∃ N, N = (cutL l).length := ⟨_, rfl⟩
  rw [← hN] at CC hNb ⊢
  have HNN := Kp.mk hN
  clear hN
  go_enter Tryd.func20, Tryd.ntmps20
  go_wp2_with (go_at_call 18; refine (CC.out _).mono ?_; rintro e w1 ⟨A, c, rfl, ho, f1⟩)
  have HO := Kp.mk ho
  have F1 := Kp.mk f1
  clear ho f1
  go_loopg [10] N (fun kq v10 wr => ∃ i : Nat, i + kq = N ∧ v10 = .int .i64 i ∧ Kp (Fr No w wr) ∧ Kp (wr.ownsRow w.heap.size 9 1 (.slice A N c) N (vals (halfN l i))))
  case atStart => exact ⟨0, by omega, rfl, F1, HO⟩
  case round =>
    clear HO F1
    obtain ⟨i, hi, rfl, F, HO⟩ := hrel
    by_cases hiN : i < N
    · obtain ⟨g, rfl⟩ : ∃ g, A = some ⟨g, 0, none⟩ := by
        rcases HO.out.2 with ⟨h1, h2⟩ | ⟨g, cap, cur, h1, _⟩
        · injection h1 with h1 h3 h4
          omega
        · injection h1 with h1
          exact ⟨g, h1⟩
      have hiN' : i < (cutL l).length := by rw [← HNN.out]; exact hiN
      have hc : wr.cell? ⟨g, i, none⟩ = some (.string (bs (cutL l)[i])) := by
        rw [HO.out.cellAt i (by omega), vals_get, halfN_get l i hiN']; rfl
      have hgw : w.heap.size ≤ g := own_new_base HO.out g rfl
      have CN := Kp.mk (name_any ((cutL l)[i]) (by have := cut_size l hl i hiN'; omega))
      have HS : Kp ((halfN l i).set i (nameL (cutL l)[i]) = halfN l (i + 1)) := ⟨halfN_set l i hiN'⟩
      have HI := Kp.mk hi
      generalize (cutL l)[i] = C at hc CN HS
      generalize nameL C = M at CN HS
      clear hi hiN'
      go_wp2_with (go_at_call 26; refine (CN.out _).mono ?_; rintro e w3 ⟨rfl, f3⟩; have hc3 := Fr.cell hc f3 (fun h => h); have hf3 := (own_no HO.out f3).frozenAt i)
      go_roundg (gk - 1)
      case measure => have := HI.out; omega
      case rel =>
        have h5 := (own_no HO.out f3).stored i (.string (bs M))
        refine ⟨i + 1, by have := HI.out; omega, by go_num, ⟨(F.out.no f3).one (Fr.setCell w3 g i _) (.inr hgw)⟩, ⟨?_⟩⟩
        rw [← HS.out]
        simpa [vals, List.map_set] using h5.1
    · obtain rfl : i = N := by omega
      have hh : halfN l i = namesL l := by rw [HNN.out]; exact halfN_all l
      go_wp2_with fail
      go_ret
      exact ⟨_, rfl, by rw [← hh]; exact HO.out, F.out⟩
theorem idx_any (t : List UInt8) (i : Nat) (x : UInt8) (h : t[i]? = some x) : ∀ W : World, (Instr.index 9 (.string (bs t)) (.int .i64 (i : Int))).run Tryd.prog W = .ok (.int .u8 (x.toNat : Int)) W := by
  intro W
  obtain ⟨hl, hx⟩ := List.getElem?_eq_some_iff.1 h
  have h1 : (bs t)[i]? = some x := by
    have e : i < (bs t).size := by rw [bs_size]; exact hl
    rw [getElem?_pos (bs t) i e]
    rw [← hx]
    have e3 : (bs t).data.toList[i]'(by simpa [bs] using hl) = (bs t)[i]'e := by rw [Array.getElem_toList]; rfl
    rw [← e3]
  simp [Instr.index, asIntOf, run_underlying Tryd.underlying9, h1, Sem.run_bind, Result.andThen, Sem.run_pure]
end Go.Proofs.YtaohfmmapammcaaDoor.Ch

/- What chunk.Fill computes, over lists; its closure for a chunk's length. Conditions: sizes are bounded, as written out. -/
set_option linter.unusedSimpArgs false
set_option linter.unusedVariables false
namespace Go.Proofs.YtaohfmmapammcaaDoor.Ch
open Go Go.RowKit Go.Proofs.YtaohfmmapammcaaDoorW.PrintWords Go.Proofs.YtaohfmmapammcaaDoor.Sha Go.Proofs.YtaohfmmapammcaaDoor.Dig Go.Proofs.YtaohfmmapammcaaDoor.Ev

def lenF (size : Int) (i : Nat) : Int := min 16 (size - (i : Int) * 16)
theorem lenF_le (size : Int) (i : Nat) : lenF size i ≤ 16 := by unfold lenF; omega
def oneF (get : List UInt8 → Option (List UInt8)) (size : Int) (i : Nat) (n : List UInt8) : Option (List UInt8) := if n = [] then some (zerosL (lenF size i)) else get n
def gotF (get : List UInt8 → Option (List UInt8)) (size : Int) (names : List (List UInt8)) : List (List UInt8) := names.mapIdx fun i n => (oneF get size i n).getD []
def allF (get : List UInt8 → Option (List UInt8)) (size : Int) (names : List (List UInt8)) : Prop := ∀ i n, names[i]? = some n → (oneF get size i n).isSome
def okF (size : Int) (cs : List (List UInt8)) : Prop := ∀ i c, cs[i]? = some c → (c.length : Int) = lenF size i
open Classical in
noncomputable def fillL (get : List UInt8 → Option (List UInt8)) (names : List (List UInt8)) (size : Int) : List UInt8 × Int :=
  if size < 0 then ([], 1) else if 4096 < size then ([], 1) else if (names.length : Int) ≠ (size + 15) / 16 then ([], 1)
  else if ¬ allF get size names then ([], 4) else if ¬ okF size (gotF get size names) then ([], 2) else ((gotF get size names).flatten, 0)
theorem gotF_len (get : List UInt8 → Option (List UInt8)) (size : Int) (names : List (List UInt8)) : (gotF get size names).length = names.length := by simp [gotF]
theorem gotF_get (get : List UInt8 → Option (List UInt8)) (size : Int) (names : List (List UInt8)) (i : Nat) (x y : List UInt8) (hx : names[i]? = some x) (hy : oneF get size i x = some y) : (gotF get size names)[i]? = some y := by
  simp [gotF, List.getElem?_mapIdx, hx, hy]
theorem gotF_take (get : List UInt8 → Option (List UInt8)) (size : Int) (names : List (List UInt8)) (i : Nat) (x y : List UInt8) (hx : names[i]? = some x) (hy : oneF get size i x = some y) :
    vals ((gotF get size names).take (i + 1)) = vals ((gotF get size names).take i) ++ [.string (bs y)] := by
  rw [List.take_add_one, gotF_get get size names i x y hx hy]
  simp [vals]

theorem ok_flat : ∀ (cs : List (List UInt8)) (size : Int), okF size cs → cs.flatten.length ≤ 16 * cs.length := by
  intro cs size h
  have h1 : ∀ c ∈ cs, c.length ≤ 16 := fun c hc => by
    obtain ⟨i, hi⟩ := List.getElem?_of_mem hc
    have := h i c hi
    have := lenF_le size i
    omega
  clear h
  induction cs with
  | nil => simp
  | cons c cs ih =>
    have := h1 c (by simp)
    have := ih (fun x hx => h1 x (by simp [hx]))
    simp only [List.flatten_cons, List.length_append, List.length_cons]
    omega
theorem cat_flat (cs : List (List UInt8)) : cat (cs.map bs) = cs.flatten := by
  unfold cat
  rw [List.map_map]
  congr 1
  exact List.map_id _

/-- Names that came in: they can be read in every world behind. -/
structure NamesC (w : World) (A : Option Addr) (names : List (List UInt8)) : Prop where
  out : 0 < names.length → ∃ b o, A = some ⟨b, o, none⟩ ∧ ∀ W', Fr No w W' → ∀ i n, names[i]? = some n → W'.cell? ⟨b, o + i, none⟩ = some (.string (bs n))

set_option maxHeartbeats 1000000 in
theorem len_any (size : Int) (i gz : Nat) (W : World) (h0 : 0 ≤ size) (h1 : size ≤ 4096) (hi : i ≤ 4096) (hb : Blk W gz 3 [.int .i64 size]) :
    Calls Tryd.prog 32 #[.int .i64 (i : Int), .pointer (some ⟨gz, 0, none⟩)] W fun e w' => e = .returned (.int .i64 (lenF size i)) ∧ w' = W := by
  have cz := hb.at_ 0 rfl
  have hz : (i : Int) ≤ 4096 := by omega
  clear hb
  go_enter Tryd.func32, Tryd.ntmps32
  go_wp2_with fail
  go_ret
  exact ⟨rfl, rfl⟩
end Go.Proofs.YtaohfmmapammcaaDoor.Ch
