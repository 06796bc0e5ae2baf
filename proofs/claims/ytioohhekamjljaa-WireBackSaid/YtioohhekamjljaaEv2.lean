/- More steps of a walk: a boxed parameter, copy at any element size, appended noughts. No conditions beside those written out. -/
import Derived.Test.YtioohhekamjljaaOwn
import Derived.Laws.CopyRow
import Derived.Lib.AppendZerosOnto
import Derived.Lib.AppendZeros
import Derived.Lib.Overlaps
import Derived.Deep.Quiet
set_option linter.unusedSimpArgs false
set_option linter.unusedVariables false
namespace Go.Proofs.Ytioohhekamjljaa.Ev
open Go Go.RowKit

section
variable {P : Program} {ops : Array Oper} {rest : List Oper} {o : Oper} {a : Act} {Q : Exit → Act → World → Prop} {W : World}
/-- A parameter put into a variable of its own. -/
theorem ev_box (hgd : o.guard = none) (t : TypeId) (x : Operand) (ho : o.op = .box t x) (v : Value) (hx : a.eval x = v) (cs : List Value) (hcs : v.cells = cs.toArray)
    (h : ∀ g w1, W.heap.size ≤ g → Fr No W w1 → Blk w1 g t cs → wpList P ops Q rest (a.put o.dst (.pointer (some ⟨g, 0, none⟩))) w1) : wpList P ops Q (o :: rest) a W := by
  refine run_value hgd (w1 := W.alloc (.cells v.cells t (0, 0))) (v := .pointer (some ⟨W.heap.size, 0, none⟩)) ?_ (h _ _ (Nat.le_refl _) (Fr.alloc _ _) ?_)
  · simp [execOp, ho, hx, Instr.box, newVar, newRow, Sem.run_bind, Result.andThen]
  · rw [hcs]; exact Blk.new W t cs

theorem run_copy_size (w : World) (dT sT ty elem : TypeId) (size g off dLen dCap : Nat) (ad : Addr) (sLen sCap : Nat) (cur : List Value) (t : TypeId) (cs : List Value)
    (hu : P.underlying dT = some (.slice elem)) (hs : (P.info? elem).map (·.size) = some size)
    (hb : Blk w g t cur) (hn : cs.length = Nat.min sLen dLen * size)
    (hsrc : ∀ j v, cs[j]? = some v → w.cell? (ad.add j) = some v) (hfit : off + cs.length ≤ cur.length) (h1 : ∀ v ∈ cs, v.oneCell' = true) :
    (Builtin.copy_ #[dT, sT] ty #[.slice (some ⟨g, off, none⟩) dLen dCap, .slice (some ad) sLen sCap]).run P w =
      .ok (goInt (Nat.min sLen dLen)) (w.setRow g (cur.take off ++ cs ++ cur.drop (off + cs.length)).toArray) := by
  have hl := run_loadCells_list (P := P) w ad cs hsrc
  have hst := run_storeCells_at P g off t cs 0 cur.toArray w hb.out (by simpa using hfit) h1
  cases hq : P.info? elem with
  | none => simp [hq] at hs
  | some i =>
    have hi : i.size = size := by simpa [hq] using hs
    simp [Builtin.copy_, run_underlying hu, Builtin.lenOf, Builtin.firstCells, sizeOf, typeInfo, hq, hi]
    rw [← hn, hl]
    simp [hst]

theorem ev_copy (hgd : o.guard = none) (d s : Operand) (dT sT : TypeId) (ho : o.op = .call { callee := .builtin .copy, args := #[d, s], argTypes := #[dT, sT] }) (e : TypeId) (size : Nat)
    (hu : P.underlying dT = some (.slice e)) (hsz : (P.info? e).map (·.size) = some size) (g off dLen dCap : Nat) (ad : Addr) (sLen sCap : Nat)
    (hd : a.eval d = .slice (some ⟨g, off, none⟩) dLen dCap) (hs : a.eval s = .slice (some ad) sLen sCap) (t : TypeId) (cur : List Value) (hb : Blk W g t cur) (cs : List Value) (hn : cs.length = Nat.min sLen dLen * size)
    (hsrc : ∀ j v, cs[j]? = some v → W.cell? (ad.add j) = some v) (hfit : off + cs.length ≤ cur.length) (h1 : ∀ v ∈ cs, v.oneCell' = true)
    (h : ∀ w1, Fr (One g) W w1 → Blk w1 g t (cur.take off ++ cs ++ cur.drop (off + cs.length)) → wpList P ops Q rest (a.put o.dst (.int .i64 (Nat.min sLen dLen : Nat))) w1) : wpList P ops Q (o :: rest) a W := by
  have hr := fun ty => run_copy_size (P := P) W dT sT ty e size g off dLen dCap ad sLen sCap cur t cs hu hsz hb hn hsrc hfit h1
  refine run_value hgd (w1 := W.setRow g (cur.take off ++ cs ++ cur.drop (off + cs.length)).toArray) (v := .int .i64 (Nat.min sLen dLen : Nat)) ?_ (h _ (Fr.setRow _ _ _) (hb.row _))
  simp [execOp, ho, resolve, invoke, builtin, Sem.run_bind, Sem.run_pure, Result.andThen_ok, hd, hs, hr, goInt]

theorem gate_none (_hN : o.dst = none) (h : wpList P ops Q (o :: rest) a W) : wpList P ops Q (o :: rest) a W := h

/-- 'append(s, make([]T, k)...)' where there is no room. -/
theorem ev_append_zeros (hgd : o.guard = none) (s x : Operand) (t tn e : TypeId) (ho : o.op = .call { callee := .builtin .append, args := #[s, x], argTypes := #[t, tn] }) (kn : IntKind)
    (ht : P.underlying t = some (.slice e)) (htn : P.underlying tn = some (.int kn)) (z : Value) (size bytes : Nat) (hinfo : (P.info? e).map (fun i => (i.zero, i.size, i.bytes)) = some (some z, size, bytes)) (hz : z.cells.size = size) (hsz : 0 < size)
    (ad : Addr) (n c k nk : Nat) (kz : Int) (kq : IntKind) (olds : List Value) (hs : a.eval s = .slice (some ad) n c) (hx : a.eval x = .int kq kz) (hkz : kz = k) (hnk : n + k = nk) (hol : olds.length = n * size) (hold : ∀ j u, olds[j]? = some u → W.cell? (ad.add j) = some u)
    (h0 : 0 < k) (hg : c < n + k) (hcn : n ≤ c) (hbytes : (n + k) * bytes ≤ 140737488355328) (hb0 : 0 < bytes)
    (h : ∀ g c' cur w1, W.heap.size ≤ g → n + k ≤ c' → c' ≤ 9223372036854775807 → Fr No W w1 → Blk w1 g e cur → cur.length = c' * size → cur.take (n * size) = olds → wpList P ops Q rest (a.put o.dst (.slice (some ⟨g, 0, none⟩) nk c')) w1) : wpList P ops Q (o :: rest) a W := by
  subst hkz hnk
  obtain ⟨i0, hi, hzz⟩ := Option.map_eq_some_iff.1 hinfo
  simp only [Prod.mk.injEq] at hzz
  obtain ⟨hz0, hz1, hz2⟩ := hzz
  have hnk : n + k ≤ 140737488355328 := Nat.le_trans (Nat.le_mul_of_pos_right _ hb0) hbytes
  have hfc : (Builtin.firstCells i0.size n (.slice (some ad) n c)).run P W.drew = .ok olds.toArray W.drew := by
    rw [hz1]
    exact run_firstCells_some W.drew size n ad n c olds hol (fun j v hj => by simpa using hold j v hj)
  have hkb : k * i0.bytes ≤ 281474976710656 := by
    have : k * bytes ≤ (n + k) * bytes := Nat.mul_le_mul_right _ (by omega)
    rw [hz2]; omega
  have hr := fun ty => Lib.run_append_grow_zeros (P := P) W t tn ty e i0 z kq kn ht htn hi hz0 (some ad) n c olds hfc k h0 (by rw [hz1]; exact hsz) hg (by omega) hkb (by rw [hz2]; exact growslice_fits hg hbytes)
  have hge := grownCap_ge W (n + k) c e
  have hgm : grownCap W (n + k) c e ≤ 9223372036854775807 := grownCap_le_maxLen W (n + k) c e (by simp only [maxLen]; omega)
  refine run_value hgd (w1 := W.drew.alloc (.cells (olds.toArray ++ Builtin.zeroCells z.cells k ++ Builtin.zeroCells z.cells (grownCap W (n + k) c e - (n + k))) e)) (v := .slice (some ⟨W.heap.size, 0, none⟩) (n + k) (grownCap W (n + k) c e)) ?_ (h W.heap.size (grownCap W (n + k) c e) (olds ++ (Builtin.zeroCells z.cells k).toList ++ (Builtin.zeroCells z.cells (grownCap W (n + k) c e - (n + k))).toList) _ (Nat.le_refl _) hge hgm ?_ ?_ ?_ ?_)
  · simp [execOp, ho, resolve, invoke, builtin, Sem.run_bind, Sem.run_pure, Result.andThen_ok, hs, hx, hr]
  · exact (Fr.refl No W).drew.no (Fr.alloc _ _)
  · have := Blk.new W.drew e (olds ++ (Builtin.zeroCells z.cells k).toList ++ (Builtin.zeroCells z.cells (grownCap W (n + k) c e - (n + k))).toList)
    have e1 : (olds ++ (Builtin.zeroCells z.cells k).toList ++ (Builtin.zeroCells z.cells (grownCap W (n + k) c e - (n + k))).toList).toArray = olds.toArray ++ Builtin.zeroCells z.cells k ++ Builtin.zeroCells z.cells (grownCap W (n + k) c e - (n + k)) := by simp
    rw [e1] at this
    exact this
  · simp only [List.length_append, Array.length_toList, Builtin.zeroCells, Array.size_map, Array.size_range, hz, hol]
    rw [← Nat.add_mul, ← Nat.add_mul]
    congr 1
    omega
  · rw [List.append_assoc, List.take_append_of_le_length (by omega), List.take_of_length_le (by omega)]
/-- 'append(s, x...)' in place: there is room. -/
theorem ev_append_room (hgd : o.guard = none) (s x : Operand) (t e : TypeId) (ho : o.op = .call { callee := .builtin .append, args := #[s, x], argTypes := #[t, t] })
    (ht : P.underlying t = some (.slice e)) (size : Nat) (hinfo : (P.info? e).map (·.size) = some size)
    (g off n c : Nat) (xp : Option Addr) (m cx nk : Nat) (hnk : n + m = nk) (hs : a.eval s = .slice (some ⟨g, off, none⟩) n c) (hx : a.eval x = .slice xp m cx) (t' : TypeId) (cur : List Value) (hb : Blk W g t' cur)
    (news : List Value) (hl : news.length = m * size) (hp : 0 < news.length → ∃ ad, xp = some ad ∧ ∀ j u, news[j]? = some u → W.cell? (ad.add j) = some u) (h1 : ∀ u ∈ news, u.oneCell' = true) (hroom : n + m ≤ c) (hfit : off + n * size + news.length ≤ cur.length)
    (h : ∀ w1, Fr (One g) W w1 → Blk w1 g t' (cur.take (off + n * size) ++ news ++ cur.drop (off + n * size + news.length)) → wpList P ops Q rest (a.put o.dst (.slice (some ⟨g, off, none⟩) nk c)) w1) : wpList P ops Q (o :: rest) a W := by
  subst hnk
  obtain ⟨i0, hi, hz1⟩ := Option.map_eq_some_iff.1 hinfo
  have hfc : (Builtin.firstCells size m (.slice xp m cx)).run P W = .ok news.toArray W := by
    cases xp with
    | none =>
      have : news = [] := by
        cases news with
        | nil => rfl
        | cons u us => obtain ⟨ad, e, _⟩ := hp (by simp); cases e
      subst this
      exact run_firstCells_none W size m m cx
    | some ad =>
      refine run_firstCells_some W size m ad m cx news hl (fun j v hj => ?_)
      obtain ⟨ad', e, hc⟩ := hp (by have := (List.getElem?_eq_some_iff.1 hj).1; omega)
      injection e with e
      subst e
      exact hc j v hj
  have hadd : (⟨g, off, none⟩ : Addr).add (n * size) = ⟨g, off + n * size, none⟩ := by rw [Addr.add_lit]
  have hst := run_storeCells_at P g (off + n * size) t' news 0 cur.toArray W hb.out (by simpa using hfit) h1
  refine run_value hgd (w1 := W.setRow g (cur.take (off + n * size) ++ news ++ cur.drop (off + n * size + news.length)).toArray) (v := .slice (some ⟨g, off, none⟩) (n + m) c) ?_ (h _ (Fr.setRow _ _ _) (hb.row _))
  simp [execOp, ho, resolve, invoke, builtin, Sem.run_bind, Sem.run_pure, Result.andThen_ok, hs, hx, Builtin.append_, run_underlying ht, sizeOf, typeInfo, hi, hz1, Builtin.lenOf, hroom, hfc, hadd, hst]

/-- 'clear(s)', s not empty. -/
theorem ev_clear (hgd : o.guard = none) (x : Operand) (t e : TypeId) (ho : o.op = .call { callee := .builtin .clear, args := #[x], argTypes := #[t] }) (ht : P.underlying t = some (.slice e)) (z : Value) (zs : List Value)
    (hz : (P.info? e).bind (·.zero) = some z) (hzs : z.cells = zs.toArray) (h1 : ∀ v ∈ zs, v.oneCell' = true) (g off c : Nat) (hx : a.eval x = .slice (some ⟨g, off, none⟩) 1 c) (t' : TypeId) (cur : List Value) (hb : Blk W g t' cur) (hfit : off + zs.length ≤ cur.length)
    (h : ∀ w1, Fr (One g) W w1 → Blk w1 g t' (cur.take off ++ zs ++ cur.drop (off + zs.length)) → wpList P ops Q rest (a.put o.dst (.tuple #[])) w1) : wpList P ops Q (o :: rest) a W := by
  have hzr : (zeroValue e).run P W = .ok z W := by
    obtain ⟨i, hi, hiz⟩ := Option.bind_eq_some_iff.1 hz
    simp [zeroValue, typeInfo, hi, hiz]
  have hzc : (Builtin.zeroCells z.cells 1).toList = zs := by
    rw [hzs]
    simp only [Builtin.zeroCells, Nat.one_mul, List.size_toArray, Array.toList_map, Array.toList_range]
    apply List.ext_getElem?
    intro j
    by_cases hj : j < zs.length
    · simp [hj, Nat.mod_eq_of_lt hj, List.getElem?_eq_getElem hj, List.getElem_range]
    · rw [List.getElem?_eq_none (Nat.not_lt.1 hj), List.getElem?_eq_none (by simpa using hj)]
  have hst := run_storeCells_at P g off t' zs 0 cur.toArray W hb.out (by simpa using hfit) h1
  refine run_value hgd (w1 := W.setRow g (cur.take off ++ zs ++ cur.drop (off + zs.length)).toArray) (v := .tuple #[]) ?_ (h _ (Fr.setRow _ _ _) (hb.row _))
  simp [execOp, ho, resolve, invoke, builtin, Sem.run_bind, Sem.run_pure, Result.andThen_ok, hx, Builtin.clear_, run_underlying ht, hzr, hzc, hst]

/-- Two results: a struct that lies in memory, and a slot's value. -/
theorem results_row_tmp {fn : Func} {p q : Tmp} {ty : TypeId} (h : fn.results = #[.cell p ty, .tmp q]) (tmps : Array Value) (w : World) (g : Nat) (t : TypeId) (cs : List Value) (d : TypeDesc)
    (hp : tmps.getD p undef = .pointer (some ⟨g, 0, none⟩)) (hb : Blk w g t cs) (hu : P.underlying ty = some d) (hd : (match d with | .struct _ | .array _ _ => true | _ => false) = true) (hi : (P.info? ty).map (·.size) = some cs.length) :
    (results fn tmps).run P w = .ok (.tuple #[.agg cs.toArray, tmps.getD q undef]) w := by
  have hp' : tmps[p]?.getD undef = .pointer (some ⟨g, 0, none⟩) := by simpa using hp
  simp [results, h, hp', asAddr, run_loadVar_row w g t ty cs.toArray (0, 0) d hb.out hu hd (by simpa using hi)]

/-- A store as one step of a region that draws. -/
theorem step_store {K : Act → World → Prop} {E : Prop} (hgd : o.guard = none) (ty : TypeId) (x y : Operand) (ho : o.op = .store ty x y) (g i : Nat) (v : Value) (hx : a.eval x = .pointer (some ⟨g, i, none⟩)) (hy : a.eval y = v) (hv : v.oneCell' = true)
    (t : TypeId) (cs : List Value) (hb : Blk W g t cs) (hil : i < cs.length) (hi : (P.info? ty).map (·.size) = some 1)
    (h : ∀ w1, Fr (One g) W w1 → Blk w1 g t (cs.set i v) → K (a.put o.dst undef) w1) : if Region.wanted o (yielded ops a.tmps) = true then Oper.wp P o a W K Q else E := by
  have hw : Region.wanted o (yielded ops a.tmps) = true := by simp [Region.wanted, hgd]
  rw [if_pos hw]
  have hc : W.cell? ⟨g, i, none⟩ = some cs[i] := hb.at_ i (List.getElem?_eq_getElem hil)
  have hf := hb.free i
  have hsz : (sizeOf ty).run P W = .ok 1 W := by
    obtain ⟨q, hq, hq1⟩ := Option.map_eq_some_iff.1 hi
    simp [sizeOf, typeInfo, hq, hq1]
  have hadd : (⟨g, i, none⟩ : Addr).add 0 = ⟨g, i, none⟩ := by unfold Addr.add; split <;> simp_all
  have hcells : v.cells = #[v] := by
    cases v <;> first | rfl | (simp [Value.oneCell'] at hv)
  have hst : (store ⟨g, i, none⟩ v).run P W = .ok () (W.setCell ⟨g, i, none⟩ v) := by
    rw [run_store P W ⟨g, i, none⟩ v .plain hv]
    simp [hc, hf]
  have hrun : (execOp a.eval o).run P W = .ok .skip (W.setCell ⟨g, i, none⟩ v) := by
    simp [execOp, ho, hx, hy, Instr.storeAt, Instr.sureAddr, storeVar, hcells, hsz, storeCells, hadd, hst, Sem.run_bind, Result.andThen]
  unfold Oper.wp
  rw [hrun]
  exact h _ (Fr.setCell _ _ _ _) (hb.set i v)

/-- A row with a lower base. -/
theorem own_le {w : World} {base base' n size : Nat} {e : TypeId} {v : Value} {cs : List Value} (h : w.ownsRow base e size v n cs) (hb : base' ≤ base) : w.ownsRow base' e size v n cs := by
  refine ⟨h.1, ?_⟩
  rcases h.2 with h2 | ⟨g, cap, cur, hv, hbg, rest⟩
  · exact .inl h2
  · exact .inr ⟨g, cap, cur, hv, Nat.le_trans hb hbg, rest⟩

/-! A region that draws its order, quiet in a class of worlds: one step at a time. -/
theorem quiet_val {C : World → Prop} {Qq : Act → Prop} {v : Value} (hw : Region.wanted o (yielded ops a.tmps) = true) (h : ∀ w, C w → (execOp a.eval o).run P w = .ok (.value v) w) {a' : Act} (ha : a.put o.dst v = a')
    (hq : wpQuiet P ops C Qq rest a') : wpQuiet P ops C Qq (o :: rest) a := by
  subst ha
  refine wpQuiet_step fun K hK => ?_
  rw [if_pos hw]
  refine ⟨v, fun w hC => ?_, hK _ hq⟩
  unfold Oper.quietAt
  rw [h w hC]
  exact ⟨rfl, rfl⟩
theorem gate_q {N : Tmp} {C : World → Prop} {Qq : Act → Prop} (_hN : o.dst = some N) (h : wpQuiet P ops C Qq (o :: rest) a) : wpQuiet P ops C Qq (o :: rest) a := h
theorem quiet_off {C : World → Prop} {Qq : Act → Prop} (hw : Region.wanted o (yielded ops a.tmps) = false) {a' : Act} (ha : a.put o.dst undef = a') (hq : wpQuiet P ops C Qq rest a') : wpQuiet P ops C Qq (o :: rest) a := by
  subst ha
  refine wpQuiet_step fun K hK => ?_
  rw [if_neg (by rw [hw]; exact Bool.false_ne_true)]
  exact hK _ hq
theorem quiet_call {C : World → Prop} {Qq : Act → Prop} {v : Value} {f : FuncId} {fn : Func} {as : Array Operand} {ts : Array TypeId} (hf : P.funcs[f]? = some fn) (hname : (fn.name == "runtime.NumGoroutine") = false) (hb : fn.body.isSome = true) (args : Array Value)
    (hw : Region.wanted o (yielded ops a.tmps) = true) (hop : o.op = .call { callee := .value (.func f), args := as, argTypes := ts }) (hargs : as.map a.eval = args)
    (h : ∀ w, C w → Calls P f args w fun e w' => e = .returned v ∧ C w') {a' : Act} (ha : a.put o.dst v = a') (hq : wpQuiet P ops C Qq rest a') : wpQuiet P ops C Qq (o :: rest) a := by
  subst ha
  refine wpQuiet_step fun K hK => ?_
  rw [if_pos hw]
  refine ⟨v, fun w hC => ?_, hK _ hq⟩
  have he : (callFunc f args).run P w = .ok (.enter f args) w := by
    have h1 : fn.name ≠ "runtime.NumGoroutine" := by simpa using hname
    obtain ⟨c, hc⟩ := Option.isSome_iff_exists.1 hb
    simp [callFunc, hf, h1, hc]
  have hrun : (execOp a.eval o).run P w = .ok (.enter f args) w := by
    unfold execOp
    simp [hop, resolve, Deferred.ofValue, invoke, Act.eval, hargs, he]
  unfold Oper.quietAt
  rw [hrun]
  exact ⟨rfl, h w hC⟩
theorem region_quiet {C : World → Prop} {id : Nat} {l : List Oper} {w : World} (hm : P.follows .mixedOrders = true) (hB : Region.lexB .any l.toArray = true) (hC : C w.drew)
    (h : wpQuiet P l.toArray C (fun a' => ∀ w', C w' → Q .normal a' w') l a) : (Code.region id l.toArray true).wp P Q a w :=
  wp_region_quiet (C := C) hm hB hC (by simpa using h)
end
end Go.Proofs.Ytioohhekamjljaa.Ev
