/- A map of the call's own, as a function of its keys: made, looked up, stored into. No conditions beside those written out. -/
import Derived.Test.YtaohfmmapammcaaEv3
import Derived.MapKept
set_option linter.unusedSimpArgs false
set_option linter.unusedVariables false
namespace Go.Proofs.Ytaohfmmapammcaa.Ev
open Go Go.RowKit

/-- Block b is a map whose keys are of d's kind; f says what it holds. -/
structure MapF (w : World) (b : Nat) (d : TypeDesc) (f : Value → Option Value) : Prop where
  out : ∃ es clock, w.heap[b]? = some (.map es clock) ∧ MapKept.Stamped es clock ∧ (∀ x ∈ es.toList, MapKept.IsKey d x.key) ∧ ∀ k v, f k = some v ↔ ∃ e ∈ es.toList, e.key = k ∧ e.val = v

section
variable {w w1 : World} {b : Nat} {d : TypeDesc} {f : Value → Option Value} {S : Nat → Prop}
theorem MapF.lt (h : MapF w b d f) : b < w.heap.size := by
  obtain ⟨es, c, hb, _⟩ := h.out
  exact (Array.getElem?_eq_some_iff.1 hb).1
theorem MapF.keep (h : MapF w b d f) (k : Fr S w w1) (hn : ¬ S b) : MapF w1 b d f := by
  obtain ⟨es, c, hb, r⟩ := h.out
  exact ⟨es, c, Fr.obj hb k hn, r⟩
theorem MapF.no (h : MapF w b d f) (k : Fr No w w1) : MapF w1 b d f := h.keep k (fun hh => hh)
theorem MapF.drewN (h : MapF w b d f) (n : Nat) : MapF (w.drewN n) b d f := ⟨h.out⟩
theorem MapF.new (w : World) (d : TypeDesc) : MapF (w.alloc (.map #[] 0)) w.heap.size d (fun _ => none) :=
  ⟨#[], 0, (MapKept.heap_alloc w _).1, MapKept.stamped_empty 0, by simp, by simp⟩
theorem MapF.congr {g : Value → Option Value} (h : MapF w b d f) (e : f = g) : MapF w b d g := e ▸ h

theorem nodup_keys {es : Array MapEntry} {clock : Nat} (h : MapKept.Stamped es clock) {x y : MapEntry} (hx : x ∈ es.toList) (hy : y ∈ es.toList) (he : x.key = y.key) : x = y := by
  have hp := ((MapKept.stamped_iff es clock).1 h).2.2
  obtain ⟨i, hi⟩ := List.getElem?_of_mem hx
  obtain ⟨j, hj⟩ := List.getElem?_of_mem hy
  obtain ⟨hi1, rfl⟩ := List.getElem?_eq_some_iff.1 hi
  obtain ⟨hj1, rfl⟩ := List.getElem?_eq_some_iff.1 hj
  rw [List.pairwise_iff_getElem] at hp
  rcases Nat.lt_trichotomy i j with hij | rfl | hij
  · exact absurd he (hp i j hi1 hj1 hij)
  · rfl
  · exact absurd he.symm (hp j i hj1 hi1 hij)
end

section
variable {P : Program} {ops : Array Oper} {rest : List Oper} {o : Oper} {a : Act} {Q : Exit → Act → World → Prop} {W : World} {b : Nat} {d : TypeDesc} {f : Value → Option Value}

theorem run_lookupF {t kt et : TypeId} (hm : MapF W b d f) (ht : P.underlying t = some (.map kt et)) (hd : P.underlying kt = some d) {z : Value} (hz : (P.info? et).bind (·.zero) = some z) {k : Value} (hk : MapKept.IsKey d k) (c : Bool) :
    (Instr.lookup t (.map (some b)) k c).run P W = .ok (if c then .tuple #[(f k).getD z, .bool (f k).isSome] else (f k).getD z) W := by
  obtain ⟨es, clock, hb, hs, hks, hf⟩ := hm.out
  have hzr : (zeroValue et).run P W = .ok z W := by
    obtain ⟨i, hi, hiz⟩ := Option.bind_eq_some_iff.1 hz
    simp [zeroValue, typeInfo, hi, hiz]
  rcases MapKept.findNow_spec hk es.toList 0 hks with ⟨h1, h2⟩ | ⟨j, e, h1, h2, h3⟩
  · have hn : f k = none := by
      cases hfk : f k with
      | none => rfl
      | some v =>
        obtain ⟨e, he, hek, _⟩ := (hf k v).1 hfk
        exact absurd hek (h2 e he)
    simp [Instr.lookup, run_underlying ht, MapKept.run_getObj_map hb, MapKept.run_checkKey hd hk, MapKept.run_findKey hd h1, Result.andThen, hzr, hn]
  · have hn : f k = some e.val := (hf k e.val).2 ⟨e, List.mem_of_getElem? h2, h3, rfl⟩
    simp [Instr.lookup, run_underlying ht, MapKept.run_getObj_map hb, MapKept.run_checkKey hd hk, MapKept.run_findKey hd h1, Result.andThen, hn]

theorem run_updateF {t kt et : TypeId} (hm : MapF W b d f) (ht : P.underlying t = some (.map kt et)) (hd : P.underlying kt = some d) {k v : Value} (hk : MapKept.IsKey d k) :
    ∃ w1, (Instr.mapUpdate t (.map (some b)) k v).run P W = .ok () w1 ∧ Fr (One b) W w1 ∧ MapF w1 b d (fun x => open Classical in if x = k then some v else f x) := by
  classical
  obtain ⟨es, clock, hb, hs, hks, hf⟩ := hm.out
  have hfr : ∀ o', Fr (One b) W { W with heap := W.heap.setIfInBounds b o' } := fun o' => ⟨rfl, rfl, rfl, by simp, fun i _ hi => (MapKept.heap_set hb).2 i hi⟩
  rcases MapKept.findNow_spec hk es.toList 0 hks with ⟨h1, h2⟩ | ⟨j, e, h1, h2, h3⟩
  · refine ⟨_, by simp [Instr.mapUpdate, run_underlying ht, MapKept.run_getObj_map hb, MapKept.run_checkKey hd hk, MapKept.run_findKey hd h1, MapKept.run_setObj_map _ hb, Result.andThen]; rfl, hfr _, ⟨_, _, (MapKept.heap_set hb).1, MapKept.stamped_push hs h2, ?_, ?_⟩⟩
    · intro x hx
      simp only [Array.toList_push, List.mem_append, List.mem_singleton] at hx
      rcases hx with hx | rfl
      · exact hks x hx
      · exact hk
    · intro x y
      by_cases hx : x = k
      · subst hx
        simp only [if_true, Option.some.injEq]
        constructor
        · rintro rfl
          exact ⟨_, by simp; exact .inr rfl, rfl, rfl⟩
        · rintro ⟨e, he, he1, he2⟩
          simp only [Array.toList_push, List.mem_append, List.mem_singleton] at he
          rcases he with he | rfl
          · exact absurd he1 (h2 e he)
          · exact he2
      · rw [if_neg hx, hf]
        constructor
        · rintro ⟨e, he, he1, he2⟩
          exact ⟨e, by simp only [Array.toList_push, List.mem_append]; exact .inl he, he1, he2⟩
        · rintro ⟨e, he, he1, he2⟩
          simp only [Array.toList_push, List.mem_append, List.mem_singleton] at he
          rcases he with he | rfl
          · exact ⟨e, he, he1, he2⟩
          · exact absurd he1.symm hx
  · have hj : es[j]? = some e := by simpa using h2
    have hkey : ∀ e', es[j]? = some e' → ({ e' with key := k, val := v } : MapEntry).key = e'.key := fun e' he' => by rw [hj] at he'; cases he'; exact h3.symm
    refine ⟨{ W with heap := W.heap.setIfInBounds b (.map (es.modify j fun e => { e with key := k, val := v }) clock) }, by simp [Instr.mapUpdate, run_underlying ht, MapKept.run_getObj_map hb, MapKept.run_checkKey hd hk, MapKept.run_findKey hd h1, hj, h3, MapKept.run_keyThatStays hk, MapKept.run_setObj_map _ hb, Result.andThen], hfr _,
      ⟨_, _, (MapKept.heap_set hb).1, MapKept.stamped_modify hs _ _ (fun _ _ => rfl) (fun e' _ he' => hkey e' he'), MapKept.isKey_modify hks _ _ hkey, ?_⟩⟩
    intro x y
    have hlt : j < es.size := (Array.getElem?_eq_some_iff.1 hj).1
    have hmem : ∀ e', e' ∈ (es.modify j fun e => { e with key := k, val := v }).toList ↔ (e' ∈ es.toList ∧ e'.key ≠ k) ∨ e' = { e with key := k, val := v } := by
      intro e'
      constructor
      · intro he
        obtain ⟨i, hi⟩ := List.getElem?_of_mem he
        have hi2 : (es.modify j fun e => { e with key := k, val := v })[i]? = some e' := by rw [← Array.getElem?_toList]; exact hi
        rw [Array.getElem?_modify] at hi2
        by_cases hij : j = i
        · subst hij
          rw [if_pos rfl, hj] at hi2
          simp at hi2
          exact .inr hi2.symm
        · rw [if_neg hij] at hi2
          have him : e' ∈ es.toList := by
            obtain ⟨hi3, rfl⟩ := Array.getElem?_eq_some_iff.1 hi2
            exact Array.mem_toList_iff.2 (Array.getElem_mem hi3)
          refine .inl ⟨him, fun hk' => hij ?_⟩
          have hee : e' = e := nodup_keys hs him (List.mem_of_getElem? h2) (hk'.trans h3.symm)
          subst hee
          have hnd : es.toList.Nodup := by
            have := ((MapKept.stamped_iff es clock).1 hs).2.2
            exact this.imp (fun h => fun he => h (by rw [he]))
          have hi4 : es.toList[i]? = some e' := by simpa using hi2
          exact (List.getElem?_inj (by simpa using hlt) hnd).1 (h2.trans hi4.symm)
      · rintro (⟨he, hne⟩ | rfl)
        · obtain ⟨i, hi⟩ := List.getElem?_of_mem he
          have hij : j ≠ i := by
            rintro rfl
            rw [h2] at hi
            cases hi
            exact hne h3
          have : (es.modify j fun e => { e with key := k, val := v })[i]? = some e' := by
            rw [Array.getElem?_modify, if_neg hij]; simpa using hi
          obtain ⟨hi3, rfl⟩ := Array.getElem?_eq_some_iff.1 this
          exact Array.mem_toList_iff.2 (Array.getElem_mem hi3)
        · have : (es.modify j fun e => { e with key := k, val := v })[j]? = some { e with key := k, val := v } := by
            rw [Array.getElem?_modify, if_pos rfl, hj]; rfl
          obtain ⟨hi3, h4⟩ := Array.getElem?_eq_some_iff.1 this
          rw [← h4]
          exact Array.mem_toList_iff.2 (Array.getElem_mem hi3)
    by_cases hx : x = k
    · subst hx
      simp only [if_true, Option.some.injEq]
      constructor
      · rintro rfl
        exact ⟨_, (hmem _).2 (.inr rfl), rfl, rfl⟩
      · rintro ⟨e', he, he1, he2⟩
        rcases (hmem _).1 he with ⟨_, hne⟩ | rfl
        · exact absurd he1 hne
        · exact he2
    · rw [if_neg hx, hf]
      constructor
      · rintro ⟨e', he, he1, he2⟩
        exact ⟨e', (hmem _).2 (.inl ⟨he, fun hk' => hx (he1.symm.trans hk')⟩), he1, he2⟩
      · rintro ⟨e', he, he1, he2⟩
        rcases (hmem _).1 he with ⟨he', _⟩ | rfl
        · exact ⟨e', he', he1, he2⟩
        · exact absurd he1.symm hx

/-- 'map[K]V{}'. -/
theorem ev_mkmap (hgd : o.guard = none) (t : TypeId) (d : TypeDesc) (ho : o.op = .makeMap t none)
    (h : ∀ g w1, W.heap.size ≤ g → Fr No W w1 → MapF w1 g d (fun _ => none) → wpList P ops Q rest (a.put o.dst (.map (some g))) w1) : wpList P ops Q (o :: rest) a W := by
  refine run_value hgd (w1 := W.alloc (.map #[] 0)) (v := .map (some W.heap.size)) ?_ (h _ _ (Nat.le_refl _) (Fr.alloc _ _) (MapF.new W d))
  simp [execOp, ho, Instr.makeMap, Sem.run_bind, Result.andThen]

/-- 'v, ok := m[k]', 'v := m[k]'. -/
theorem ev_lookup (hgd : o.guard = none) (t kt et : TypeId) (x y : Operand) (c : Bool) (ho : o.op = .lookup t x y c) (hm : MapF W b d f) (hx : a.eval x = .map (some b)) (ht : P.underlying t = some (.map kt et)) (hd : P.underlying kt = some d)
    (z : Value) (hz : (P.info? et).bind (·.zero) = some z) (k : Value) (hy : a.eval y = k) (hk : MapKept.IsKey d k)
    (h : wpList P ops Q rest (a.put o.dst (if c then .tuple #[(f k).getD z, .bool (f k).isSome] else (f k).getD z)) W) : wpList P ops Q (o :: rest) a W := by
  refine run_value hgd ?_ h
  simp [execOp, ho, hx, hy, run_lookupF hm ht hd hz hk, Sem.run_bind, Result.andThen]

/-- 'm[k] = v'. -/
theorem ev_update (hgd : o.guard = none) (t kt et : TypeId) (x y z : Operand) (ho : o.op = .mapUpdate t x y z) (hm : MapF W b d f) (hx : a.eval x = .map (some b)) (ht : P.underlying t = some (.map kt et)) (hd : P.underlying kt = some d)
    (k v : Value) (hy : a.eval y = k) (hz : a.eval z = v) (hk : MapKept.IsKey d k)
    (h : ∀ w1, Fr (One b) W w1 → MapF w1 b d (fun x => open Classical in if x = k then some v else f x) → wpList P ops Q rest (a.put o.dst undef) w1) : wpList P ops Q (o :: rest) a W := by
  obtain ⟨w1, hr, f1, m1⟩ := run_updateF (v := v) hm ht hd hk
  refine run_skip hgd ?_ (h w1 f1 m1)
  simp [execOp, ho, hx, hy, hz, hr, Sem.run_bind, Result.andThen]
end
end Go.Proofs.Ytaohfmmapammcaa.Ev
