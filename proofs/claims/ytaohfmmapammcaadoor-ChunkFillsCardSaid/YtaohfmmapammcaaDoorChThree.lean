/- Texts joined by merge.py: MapF, ChFills, ChRowP, ChFillsRow. -/
import Derived.Test.YtaohfmmapammcaaDoorChOne
import Derived.MapKept
import Derived.Test.YtaohfmmapammcaaDoorChTwo
import Derived.Test.YtaohfmmapammcaaDoorChFB
import Derived.Test.YtaohfmmapammcaaDoorChFA
import Derived.Test.YtaohfmmapammcaaDoorCards
import Derived.Test.YtaohfmmapammcaaDoorTie
import Derived.Test.YtaohfmmapammcaaDoorChecked
import Derived.ProofKit
import Derived.OpenShut
import Derived.Deep.DeepHandedRow
import Derived.Lay
import Derived.ChangeMaps5
import Derived.SevenTiedAt
import Derived.SizedLaws
import Derived.SliceStrings
/- A map of the call's own, as a function of its keys: made, looked up, stored into. No conditions beside those written out. -/
set_option linter.unusedSimpArgs false
set_option linter.unusedVariables false
namespace Go.Proofs.YtaohfmmapammcaaDoor.Ev
open Go Go.RowKit

/-- Block b is a map whose keys are of d's kind; f says what it holds. -/
structure MapF (w : World) (b : Nat) (d : TypeDesc) (f : Value → Option Value) : Prop where
  out : ∃ es clock, w.heap[b]? = some (.map es clock) ∧ MapKept.Stamped es clock ∧ (∀ x ∈ es.toList, MapKept.IsKey d x.key) ∧ ∀ k v, f k = some v ↔ ∃ e ∈ es.toList, e.key = k ∧ e.val = v

section
variable {w w1 : World} {b : Nat} {d : TypeDesc} {f : Value → Option Value} {S : Nat → Prop}
theorem MapF.lt (h : MapF w b d f) : b < w.heap.size := by
  obtain ⟨es, c, hb, _⟩ := h.out
  exact (Array.getElem?_eq_some_iff.1 hb).1
theorem MapF.keep (h : MapF w b d f) (k : Fr S w w1) (hn : ¬ S b) : MapF w1 b d f := by
  obtain ⟨es, c, hb, r⟩ := h.out
  exact ⟨es, c, Fr.obj hb k hn, r⟩
theorem MapF.no (h : MapF w b d f) (k : Fr No w w1) : MapF w1 b d f := h.keep k (fun hh => hh)
theorem MapF.drewN (h : MapF w b d f) (n : Nat) : MapF (w.drewN n) b d f := ⟨h.out⟩
theorem MapF.new (w : World) (d : TypeDesc) : MapF (w.alloc (.map #[] 0)) w.heap.size d (fun _ => none) :=
  ⟨#[], 0, (MapKept.heap_alloc w _).1, MapKept.stamped_empty 0, by simp, by simp⟩
theorem MapF.congr {g : Value → Option Value} (h : MapF w b d f) (e : f = g) : MapF w b d g := e ▸ h

theorem nodup_keys {es : Array MapEntry} {clock : Nat} (h : MapKept.Stamped es clock) {x y : MapEntry} (hx : x ∈ es.toList) (hy : y ∈ es.toList) (he : x.key = y.key) : x = y := by
  have hp := ((MapKept.stamped_iff es clock).1 h).2.2
  obtain ⟨i, hi⟩ := List.getElem?_of_mem hx
  obtain ⟨j, hj⟩ := List.getElem?_of_mem hy
  obtain ⟨hi1, rfl⟩ := List.getElem?_eq_some_iff.1 hi
  obtain ⟨hj1, rfl⟩ := List.getElem?_eq_some_iff.1 hj
  rw [List.pairwise_iff_getElem] at hp
  rcases Nat.lt_trichotomy i j with hij | rfl | hij
  · exact absurd he (hp i j hi1 hj1 hij)
  · rfl
  · exact absurd he.symm (hp j i hj1 hi1 hij)
end

section
variable {P : Program} {ops : Array Oper} {rest : List Oper} {o : Oper} {a : Act} {Q : Exit → Act → World → Prop} {W : World} {b : Nat} {d : TypeDesc} {f : Value → Option Value}

theorem run_lookupF {t kt et : TypeId} (hm : MapF W b d f) (ht : P.underlying t = some (.map kt et)) (hd : P.underlying kt = some d) {z : Value} (hz : (P.info? et).bind (·.zero) = some z) {k : Value} (hk : MapKept.IsKey d k) (c : Bool) :
    (Instr.lookup t (.map (some b)) k c).run P W = .ok (if c then .tuple #[(f k).getD z, .bool (f k).isSome] else (f k).getD z) W := by
  obtain ⟨es, clock, hb, hs, hks, hf⟩ := hm.out
  have hzr : (zeroValue et).run P W = .ok z W := by
    obtain ⟨i, hi, hiz⟩ := Option.bind_eq_some_iff.1 hz
    simp [zeroValue, typeInfo, hi, hiz]
  rcases MapKept.findNow_spec hk es.toList 0 hks with ⟨h1, h2⟩ | ⟨j, e, h1, h2, h3⟩
  · have hn : f k = none := by
      cases hfk : f k with
      | none => rfl
      | some v =>
        obtain ⟨e, he, hek, _⟩ := (hf k v).1 hfk
        exact absurd hek (h2 e he)
    simp [Instr.lookup, run_underlying ht, MapKept.run_getObj_map hb, MapKept.run_checkKey hd hk, MapKept.run_findKey hd h1, Result.andThen, hzr, hn]
  · have hn : f k = some e.val := (hf k e.val).2 ⟨e, List.mem_of_getElem? h2, h3, rfl⟩
    simp [Instr.lookup, run_underlying ht, MapKept.run_getObj_map hb, MapKept.run_checkKey hd hk, MapKept.run_findKey hd h1, Result.andThen, hn]

theorem run_updateF {t kt et : TypeId} (hm : MapF W b d f) (ht : P.underlying t = some (.map kt et)) (hd : P.underlying kt = some d) {k v : Value} (hk : MapKept.IsKey d k) :
    ∃ w1, (Instr.mapUpdate t (.map (some b)) k v).run P W = .ok () w1 ∧ Fr (One b) W w1 ∧ MapF w1 b d (fun x => open Classical in if x = k then some v else f x) := by
  classical
  obtain ⟨es, clock, hb, hs, hks, hf⟩ := hm.out
  have hfr : ∀ o', Fr (One b) W { W with heap := W.heap.setIfInBounds b o' } := fun o' => ⟨rfl, rfl, rfl, by simp, fun i _ hi => (MapKept.heap_set hb).2 i hi⟩
  rcases MapKept.findNow_spec hk es.toList 0 hks with ⟨h1, h2⟩ | ⟨j, e, h1, h2, h3⟩
  · refine ⟨_, by simp [Instr.mapUpdate, run_underlying ht, MapKept.run_getObj_map hb, MapKept.run_checkKey hd hk, MapKept.run_findKey hd h1, MapKept.run_setObj_map _ hb, Result.andThen]; rfl, hfr _, ⟨_, _, (MapKept.heap_set hb).1, MapKept.stamped_push hs h2, ?_, ?_⟩⟩
    · intro x hx
      simp only [Array.toList_push, List.mem_append, List.mem_singleton] at hx
      rcases hx with hx | rfl
      · exact hks x hx
      · exact hk
    · intro x y
      by_cases hx : x = k
      · subst hx
        simp only [if_true, Option.some.injEq]
        constructor
        · rintro rfl
          exact ⟨_, by simp; exact .inr rfl, rfl, rfl⟩
        · rintro ⟨e, he, he1, he2⟩
          simp only [Array.toList_push, List.mem_append, List.mem_singleton] at he
          rcases he with he | rfl
          · exact absurd he1 (h2 e he)
          · exact he2
      · rw [if_neg hx, hf]
        constructor
        · rintro ⟨e, he, he1, he2⟩
          exact ⟨e, by simp only [Array.toList_push, List.mem_append]; exact .inl he, he1, he2⟩
        · rintro ⟨e, he, he1, he2⟩
          simp only [Array.toList_push, List.mem_append, List.mem_singleton] at he
          rcases he with he | rfl
          · exact ⟨e, he, he1, he2⟩
          · exact absurd he1.symm hx
  · have hj : es[j]? = some e := by simpa using h2
    have hkey : ∀ e', es[j]? = some e' → ({ e' with key := k, val := v } : MapEntry).key = e'.key := fun e' he' => by rw [hj] at he'; cases he'; exact h3.symm
    refine ⟨{ W with heap := W.heap.setIfInBounds b (.map (es.modify j fun e => { e with key := k, val := v }) clock) }, by simp [Instr.mapUpdate, run_underlying ht, MapKept.run_getObj_map hb, MapKept.run_checkKey hd hk, MapKept.run_findKey hd h1, hj, h3, MapKept.run_keyThatStays hk, MapKept.run_setObj_map _ hb, Result.andThen], hfr _,
      ⟨_, _, (MapKept.heap_set hb).1, MapKept.stamped_modify hs _ _ (fun _ _ => rfl) (fun e' _ he' => hkey e' he'), MapKept.isKey_modify hks _ _ hkey, ?_⟩⟩
    intro x y
    have hlt : j < es.size := (Array.getElem?_eq_some_iff.1 hj).1
    have hmem : ∀ e', e' ∈ (es.modify j fun e => { e with key := k, val := v }).toList ↔ (e' ∈ es.toList ∧ e'.key ≠ k) ∨ e' = { e with key := k, val := v } := by
      intro e'
      constructor
      · intro he
        obtain ⟨i, hi⟩ := List.getElem?_of_mem he
        have hi2 : (es.modify j fun e => { e with key := k, val := v })[i]? = some e' := by rw [← Array.getElem?_toList]; exact hi
        rw [Array.getElem?_modify] at hi2
        by_cases hij : j = i
        · subst hij
          rw [if_pos rfl, hj] at hi2
          simp at hi2
          exact .inr hi2.symm
        · rw [if_neg hij] at hi2
          have him : e' ∈ es.toList := by
            obtain ⟨hi3, rfl⟩ := Array.getElem?_eq_some_iff.1 hi2
            exact Array.mem_toList_iff.2 (Array.getElem_mem hi3)
          refine .inl ⟨him, fun hk' => hij ?_⟩
          have hee : e' = e := nodup_keys hs him (List.mem_of_getElem? h2) (hk'.trans h3.symm)
          subst hee
          have hnd : es.toList.Nodup := by
            have := ((MapKept.stamped_iff es clock).1 hs).2.2
            exact this.imp (fun h => fun he => h (by rw [he]))
          have hi4 : es.toList[i]? = some e' := by simpa using hi2
          exact (List.getElem?_inj (by simpa using hlt) hnd).1 (h2.trans hi4.symm)
      · rintro (⟨he, hne⟩ | rfl)
        · obtain ⟨i, hi⟩ := List.getElem?_of_mem he
          have hij : j ≠ i := by
            rintro rfl
            rw [h2] at hi
            cases hi
            exact hne h3
          have : (es.modify j fun e => { e with key := k, val := v })[i]? = some e' := by
            rw [Array.getElem?_modify, if_neg hij]; simpa using hi
          obtain ⟨hi3, rfl⟩ := Array.getElem?_eq_some_iff.1 this
          exact Array.mem_toList_iff.2 (Array.getElem_mem hi3)
        · have : (es.modify j fun e => { e with key := k, val := v })[j]? = some { e with key := k, val := v } := by
            rw [Array.getElem?_modify, if_pos rfl, hj]; rfl
          obtain ⟨hi3, h4⟩ := Array.getElem?_eq_some_iff.1 this
          rw [← h4]
          exact Array.mem_toList_iff.2 (Array.getElem_mem hi3)
    by_cases hx : x = k
    · subst hx
      simp only [if_true, Option.some.injEq]
      constructor
      · rintro rfl
        exact ⟨_, (hmem _).2 (.inr rfl), rfl, rfl⟩
      · rintro ⟨e', he, he1, he2⟩
        rcases (hmem _).1 he with ⟨_, hne⟩ | rfl
        · exact absurd he1 hne
        · exact he2
    · rw [if_neg hx, hf]
      constructor
      · rintro ⟨e', he, he1, he2⟩
        exact ⟨e', (hmem _).2 (.inl ⟨he, fun hk' => hx (he1.symm.trans hk')⟩), he1, he2⟩
      · rintro ⟨e', he, he1, he2⟩
        rcases (hmem _).1 he with ⟨he', _⟩ | rfl
        · exact ⟨e', he', he1, he2⟩
        · exact absurd he1.symm hx

/-- 'map[K]V{}'. -/
theorem ev_mkmap (hgd : o.guard = none) (t : TypeId) (d : TypeDesc) (ho : o.op = .makeMap t none)
    (h : ∀ g w1, W.heap.size ≤ g → Fr No W w1 → MapF w1 g d (fun _ => none) → wpList P ops Q rest (a.put o.dst (.map (some g))) w1) : wpList P ops Q (o :: rest) a W := by
  refine run_value hgd (w1 := W.alloc (.map #[] 0)) (v := .map (some W.heap.size)) ?_ (h _ _ (Nat.le_refl _) (Fr.alloc _ _) (MapF.new W d))
  simp [execOp, ho, Instr.makeMap, Sem.run_bind, Result.andThen]

/-- 'v, ok := m[k]', 'v := m[k]'. -/
theorem ev_lookup (hgd : o.guard = none) (t kt et : TypeId) (x y : Operand) (c : Bool) (ho : o.op = .lookup t x y c) (hm : MapF W b d f) (hx : a.eval x = .map (some b)) (ht : P.underlying t = some (.map kt et)) (hd : P.underlying kt = some d)
    (z : Value) (hz : (P.info? et).bind (·.zero) = some z) (k : Value) (hy : a.eval y = k) (hk : MapKept.IsKey d k)
    (h : wpList P ops Q rest (a.put o.dst (if c then .tuple #[(f k).getD z, .bool (f k).isSome] else (f k).getD z)) W) : wpList P ops Q (o :: rest) a W := by
  refine run_value hgd ?_ h
  simp [execOp, ho, hx, hy, run_lookupF hm ht hd hz hk, Sem.run_bind, Result.andThen]

/-- 'm[k] = v'. -/
theorem ev_update (hgd : o.guard = none) (t kt et : TypeId) (x y z : Operand) (ho : o.op = .mapUpdate t x y z) (hm : MapF W b d f) (hx : a.eval x = .map (some b)) (ht : P.underlying t = some (.map kt et)) (hd : P.underlying kt = some d)
    (k v : Value) (hy : a.eval y = k) (hz : a.eval z = v) (hk : MapKept.IsKey d k)
    (h : ∀ w1, Fr (One b) W w1 → MapF w1 b d (fun x => open Classical in if x = k then some v else f x) → wpList P ops Q rest (a.put o.dst undef) w1) : wpList P ops Q (o :: rest) a W := by
  obtain ⟨w1, hr, f1, m1⟩ := run_updateF (v := v) hm ht hd hk
  refine run_skip hgd ?_ (h w1 f1 m1)
  simp [execOp, ho, hx, hy, hz, hr, Sem.run_bind, Result.andThen]
end
end Go.Proofs.YtaohfmmapammcaaDoor.Ev

/- The law ChunkFills' own function: it returns true. No conditions but the input's sizes. -/
set_option linter.unusedSimpArgs false
set_option linter.unusedVariables false
namespace Go.Proofs.YtaohfmmapammcaaDoor.Ch
open Go Go.RowKit Go.Proofs.YtaohfmmapammcaaDoorW.PrintWords Go.Proofs.YtaohfmmapammcaaDoor.Reg Go.Proofs.YtaohfmmapammcaaDoor.Sha Go.Proofs.YtaohfmmapammcaaDoor.Dig Go.Proofs.YtaohfmmapammcaaDoor.Ev

noncomputable def bodyFills : Code := Tryd.f4.body.getD .skip
theorem zeroMap : (Tryd.prog.info? 38).bind (·.zero) = some (.map none) := by kernel_rfl
theorem sizeMap : (Tryd.prog.info? 38).map (·.size) = some 1 := by kernel_rfl
theorem zeroStr : (Tryd.prog.info? 9).bind (·.zero) = some (.string ⟨#[]⟩) := by kernel_rfl

/-- What the map holds when the chunks from i on are in it. -/
def mapK (known : List (List UInt8)) (i : Nat) : Value → Option Value
  | .string s => (lookK (known.drop i) s.data.toList).map fun y => .string (bs y)
  | _ => none
theorem mapK_all (known : List (List UInt8)) (n : List UInt8) : mapK known 0 (.string (bs n)) = (lookK known n).map fun y => .string (bs y) := rfl
open Classical in
theorem mapK_step (known : List (List UInt8)) (i : Nat) (y : List UInt8) (h : known[i]? = some y) : (fun x => if x = .string (bs (nameL y)) then some (.string (bs y)) else mapK known (i + 1) x) = mapK known i := by
  funext x
  obtain ⟨hl, rfl⟩ := List.getElem?_eq_some_iff.1 h
  have hd : known.drop i = known[i] :: known.drop (i + 1) := List.drop_eq_getElem_cons hl
  by_cases hx : x = .string (bs (nameL known[i]))
  · subst hx
    rw [if_pos rfl]
    show some _ = (lookK (known.drop i) (nameL known[i])).map _
    unfold lookK
    rw [hd, List.find?_cons]
    simp
  · rw [if_neg hx]
    cases x with
    | string s =>
      show (lookK (known.drop (i + 1)) s.data.toList).map _ = (lookK (known.drop i) s.data.toList).map _
      unfold lookK
      rw [hd, List.find?_cons]
      have hne : ¬ nameL known[i] = s.data.toList := fun e => hx (by rw [e])
      simp [hne]
    | _ => rfl
theorem mapK_none (known : List (List UInt8)) : mapK known known.length = fun _ => none := by
  funext x
  cases x with
  | string s =>
    show (lookK (known.drop known.length) s.data.toList).map _ = none
    rw [List.drop_of_length_le (Nat.le_refl _)]
    rfl
  | _ => rfl

set_option maxHeartbeats 4000000 in
theorem clo_fills (known : List (List UInt8)) (gm mb : Nat) (W : World) (hb : Blk W gm 38 [.map (some mb)]) (hm : MapF W mb .string (mapK known 0)) (n : List UInt8) :
    Calls Tryd.prog 24 #[.string (bs n), .pointer (some ⟨gm, 0, none⟩)] W fun e w' => e = .returned (.tuple #[.string (bs ((lookK known n).getD [])), .bool (lookK known n).isSome]) ∧ Fr No W w' := by
  have cz := hb.at_ 0 rfl
  have e1 : (mapK known 0 (.string (bs n))).getD (.string ⟨#[]⟩) = .string (bs ((lookK known n).getD [])) := by
    rw [mapK_all]
    cases lookK known n <;> rfl
  have e2 : (mapK known 0 (.string (bs n))).isSome = (lookK known n).isSome := by
    rw [mapK_all]
    cases lookK known n <;> rfl
  have E1 := Kp.mk e1
  have E2 := Kp.mk e2
  clear e1 e2
  go_enter Tryd.func24, Tryd.ntmps24
  go_wp2_with ((with_reducible refine gate_dst (N := 10) rfl ?_); refine ev_lookup rfl 38 9 9 (.tmp 8) (.tmp 9) true rfl hm rfl Tryd.underlying38 Tryd.underlying9 (.string ⟨#[]⟩) zeroStr (.string (bs n)) rfl trivial ?_; simp only [if_true]; rw [E1.out, E2.out])
  go_ret2
  exact ⟨rfl, Fr.refl _ _⟩

theorem NamesC.fr {w W : World} {A : Option Addr} {xs : List (List UInt8)} (h : NamesC w A xs) (f : Fr No w W) : NamesC W A xs := ⟨fun h0 => by
  obtain ⟨b, o, h1, h2⟩ := h.out h0
  exact ⟨b, o, h1, fun W' f' => h2 W' (f.no f')⟩⟩
theorem map_ne {W : World} {gm mb : Nat} {t : TypeId} {cs : List Value} {d : TypeDesc} {f : Value → Option Value} (hb : Blk W gm t cs) (hm : MapF W mb d f) : gm ≠ mb := by
  rintro rfl
  obtain ⟨es, c, h, _⟩ := hm.out
  rw [hb.out] at h
  cases h

set_option maxHeartbeats 8000000 in
set_option maxRecDepth 100000 in
theorem fills_loop (w : World) (known : List (List UInt8)) (M : Nat) (hM : M = known.length) (hMb : M ≤ 4096) (AK A : Option Addr) (ck N c : Nat) (size : Int) (gm mb : Nat) (hK : NamesC w AK known)
    (W : World) (u : Nat → Value) (fW : Fr No w W) (hmb : w.heap.size ≤ mb) (bg : Blk W gm 38 [.map (some mb)]) (hm : MapF W mb .string (fun _ => none)) (Q : Exit → Act → World → Prop)
    (hR : ∀ (u : Nat → Value) ws, Fr No w ws → Q .ret { tmps := List.toArray (.slice A N c :: .slice AK M ck :: .int .i64 size :: u 3 :: u 4 :: u 5 :: .bool true :: .pointer (some ⟨gm, 0, none⟩) :: u 8 :: u 9 :: u 10 :: u 11 :: u 12 :: u 13 :: u 14 :: u 15 :: u 16 :: u 17 :: u 18 :: u 19 :: u 20 :: u 21 :: u 22 :: u 23 :: u 24 :: u 25 :: u 26 :: u 27 :: u 28 :: u 29 :: u 30 :: u 31 :: u 32 :: u 33 :: u 34 :: u 35 :: u 36 :: u 37 :: u 38 :: u 39 :: u 40 :: u 41 :: u 42 :: u 43 :: u 44 :: u 45 :: u 46 :: u 47 :: u 48 :: u 49 :: u 50 :: u 51 :: u 52 :: u 53 :: u 54 :: u 55 :: u 56 :: u 57 :: u 58 :: u 59 :: u 60 :: u 61 :: u 62 :: u 63 :: u 64 :: u 65 :: u 66 :: u 67 :: u 68 :: []), defers := [] } ws)
    (hQ : ∀ (u : Nat → Value) ws, Fr No w ws → Blk ws gm 38 [.map (some mb)] → MapF ws mb .string (mapK known 0) → (∀ y ∈ known, y.length ≤ 100) → Q .normal { tmps := List.toArray (.slice A N c :: .slice AK M ck :: .int .i64 size :: u 3 :: u 4 :: u 5 :: u 6 :: .pointer (some ⟨gm, 0, none⟩) :: u 8 :: u 9 :: u 10 :: u 11 :: u 12 :: u 13 :: u 14 :: u 15 :: u 16 :: u 17 :: u 18 :: u 19 :: u 20 :: u 21 :: u 22 :: u 23 :: u 24 :: u 25 :: u 26 :: u 27 :: u 28 :: u 29 :: u 30 :: u 31 :: u 32 :: u 33 :: u 34 :: u 35 :: u 36 :: u 37 :: u 38 :: u 39 :: u 40 :: u 41 :: u 42 :: u 43 :: u 44 :: u 45 :: u 46 :: u 47 :: u 48 :: u 49 :: u 50 :: u 51 :: u 52 :: u 53 :: u 54 :: u 55 :: u 56 :: u 57 :: u 58 :: u 59 :: u 60 :: u 61 :: u 62 :: u 63 :: u 64 :: u 65 :: u 66 :: u 67 :: u 68 :: []), defers := [] } ws) :
    Code.wp Tryd.prog (sub [1,1,1,1,0,1] bodyFills) Q { tmps := List.toArray (.slice A N c :: .slice AK M ck :: .int .i64 size :: u 3 :: u 4 :: u 5 :: u 6 :: .pointer (some ⟨gm, 0, none⟩) :: .int .i64 ((M : Int) - 1) :: u 9 :: u 10 :: u 11 :: u 12 :: u 13 :: u 14 :: u 15 :: u 16 :: u 17 :: u 18 :: u 19 :: u 20 :: u 21 :: u 22 :: u 23 :: u 24 :: u 25 :: u 26 :: u 27 :: u 28 :: u 29 :: u 30 :: u 31 :: u 32 :: u 33 :: u 34 :: u 35 :: u 36 :: u 37 :: u 38 :: u 39 :: u 40 :: u 41 :: u 42 :: u 43 :: u 44 :: u 45 :: u 46 :: u 47 :: u 48 :: u 49 :: u 50 :: u 51 :: u 52 :: u 53 :: u 54 :: u 55 :: u 56 :: u 57 :: u 58 :: u 59 :: u 60 :: u 61 :: u 62 :: u 63 :: u 64 :: u 65 :: u 66 :: u 67 :: u 68 :: []), defers := [] } W := by
  conv => arg 2; whnf
  have HQ := Kp.mk hQ
  have HR := Kp.mk hR
  have HK0 := Kp.mk hK
  have HM := Kp.mk hM
  have HMb := Kp.mk hmb
  clear hQ hR hK hM hmb
  refine wp_block ?_
  refine wp_loop_ghost_k (fun n a' w' => ∃ (k : Nat) (t : Int) (u : Nat → Value), (n = k ∧ k ≤ M ∧ t = (k : Int) - 1 ∧ Fr No w w' ∧ Blk w' gm 38 [.map (some mb)] ∧ MapF w' mb .string (mapK known k) ∧ (∀ (j : Nat) (y : List UInt8), k ≤ j → known[j]? = some y → y.length ≤ 100)) ∧ a' = { tmps := List.toArray (.slice A N c :: .slice AK M ck :: .int .i64 size :: u 3 :: u 4 :: u 5 :: u 6 :: .pointer (some ⟨gm, 0, none⟩) :: .int .i64 t :: u 9 :: u 10 :: u 11 :: u 12 :: u 13 :: u 14 :: u 15 :: u 16 :: u 17 :: u 18 :: u 19 :: u 20 :: u 21 :: u 22 :: u 23 :: u 24 :: u 25 :: u 26 :: u 27 :: u 28 :: u 29 :: u 30 :: u 31 :: u 32 :: u 33 :: u 34 :: u 35 :: u 36 :: u 37 :: u 38 :: u 39 :: u 40 :: u 41 :: u 42 :: u 43 :: u 44 :: u 45 :: u 46 :: u 47 :: u 48 :: u 49 :: u 50 :: u 51 :: u 52 :: u 53 :: u 54 :: u 55 :: u 56 :: u 57 :: u 58 :: u 59 :: u 60 :: u 61 :: u 62 :: u 63 :: u 64 :: u 65 :: u 66 :: u 67 :: u 68 :: []), defers := [] }) M
    ⟨M, (M : Int) - 1, u, ⟨rfl, Nat.le_refl _, rfl, fW, bg, by rw [HM.out, mapK_none]; exact hm, fun j y hj hy => by
      have := (List.getElem?_eq_some_iff.1 hy).1
      have := HM.out
      omega⟩, rfl⟩ ?_
  clear bg hm fW
  rintro n a' w' ⟨k, t, u, ⟨rfl, hkM, ht, f, bg, hm, hall⟩, rfl⟩ J K hJ hK
  have HJ := Kp.mk hJ
  have HK := Kp.mk hK
  have F := Kp.mk f
  have HA := Kp.mk hall
  clear hJ hK f hall
  cases n with
  | zero =>
    obtain rfl : t = -1 := by omega
    clear ht
    have hal : Kp (∀ y ∈ known, y.length ≤ 100) := ⟨fun y hy => by
      obtain ⟨j, hj⟩ := List.getElem?_of_mem hy
      exact HA.out j y (Nat.zero_le _) hj⟩
    go_wp2_with fail
    exact K_u (fun u => HQ.out u _ F.out bg hm hal.out) rfl
  | succ i =>
    obtain rfl : t = (i : Int) := by omega
    clear ht
    have hlt : i < M := by omega
    have hltz : (i : Int) < (M : Int) := by omega
    have hi0 : (0 : Int) ≤ (i : Int) := by omega
    obtain ⟨y, hy⟩ : ∃ y, known[i]? = some y := ⟨_, List.getElem?_eq_getElem (by rw [← HM.out]; exact hlt)⟩
    obtain ⟨bk, ok, rfl, hcc⟩ := HK0.out.out (by rw [← HM.out]; omega)
    have l1 := hcc _ F.out i y hy
    have l3 := bg.at_ 0 rfl
    have HY := Kp.mk hy
    have hsz : (bs y).size = y.length := bs_size y
    have hne := map_ne bg hm
    clear hcc hy
    by_cases h100 : y.length ≤ 100
    · have h100z : (y.length : Int) ≤ 100 := by omega
      obtain ⟨T, hT⟩ : ∃ T, T = nameL y := ⟨_, rfl⟩
      have CN : Kp (∀ W, Calls Tryd.prog 22 #[.string (bs y)] W fun e w' => e = .returned (.string (bs T)) ∧ Fr No W w') := ⟨fun W => by rw [hT]; exact rname_any y (by omega) W⟩
      have HT := Kp.mk hT
      have fd := (Fr.refl No w').drew
      clear hT
      go_wp2_with fail
      refine wp_region_quiet_tail (fun w3 => Fr No w' w3) 10 (by kernel_rfl) (by kernel_rfl) fd ?_
      simp only [List.take_succ_cons, List.take_zero, List.drop_succ_cons, List.drop_zero]
      iterate 10 (first
        | ((with_reducible refine gate_q (N := 42) rfl ?_); refine quiet_call (a' := ?_) Tryd.func22 (by kernel_rfl) rfl #[.string (bs y)] (by rfl) rfl (by simp only [List.map_toArray, List.map_cons, List.map_nil]; rfl) (fun w3 hC => (CN.out w3).mono (by rintro e w4 ⟨rfl, f4⟩; exact ⟨rfl, hC.no f4⟩)) ?_ ?_; rotate_left; (simp only [Act.put, List.setIfInBounds_toArray, List.set_cons_zero, List.set_cons_succ]; rfl))
        | (go_big_quiet_step (fail))
        | (refine quiet_val (v := ?_) (a' := ?_) (by rfl) ?_ ?_ ?_; rotate_left; (focus (rintro w3 hf3; have q0 := Fr.cell l1 hf3 (fun h => h); have q1 := Fr.cell l3 hf3 (fun h => h); go_simp; first | done | with_reducible rfl)); rotate_left; (simp only [Act.put, List.setIfInBounds_toArray, List.set_cons_zero, List.set_cons_succ]; rfl)))
      refine wpQuiet_nil ?_
      rintro w3 f3
      have hm3 := hm.no f3
      have bg3 := bg.no f3
      clear l1 l3 fd
      refine ev_update rfl 38 9 9 (.tmp 37) (.tmp 42) (.tmp 46) rfl hm3 rfl Tryd.underlying38 Tryd.underlying9 (.string (bs T)) (.string (bs y)) rfl rfl trivial ?_
      intro w5 f5 hm5
      have hm5 : MapF w5 mb .string (mapK known i) := hm5.congr (by rw [HT.out]; exact mapK_step known i y HY.out)
      have bg5 := bg3.keep f5 hne
      go_wp2_with fail
      refine HK.out _ _ (Handed.intro i (by omega) (HJ.out _ _ _ ⟨i, (i : Int) - 1, ex_u ⟨rfl, by omega, rfl, (F.out.no f3).one f5 (.inr HMb.out), bg5, hm5, fun j z hj hz => by
        by_cases e : j = i
        · subst e
          rw [HY.out] at hz
          cases hz
          exact h100
        · exact HA.out j z (by omega) hz⟩ rfl⟩))
    · have h100z : (100 : Int) < (y.length : Int) := by omega
      go_wp2_with fail
      exact K_u (K := Q .ret) (fun u => HR.out u _ F.out) rfl

set_option maxHeartbeats 8000000 in
set_option maxRecDepth 100000 in
theorem fills_any (w : World) (names known : List (List UInt8)) (A AK : Option Addr) (c ck : Nat) (size : Int) (hs0 : -9223372036854775808 ≤ size) (hs1 : size ≤ 9223372036854775807)
    (hX : NamesC w A names) (hK : NamesC w AK known) (hNb : names.length ≤ 1099511627776000) (hMb : known.length ≤ 1099511627776000) :
    Calls Tryd.prog 4 #[.slice A names.length c, .slice AK known.length ck, .int .i64 size] w fun e w' => e = .returned (.bool true) ∧ Fr No w w' := by
  have hmf : ∀ (fn : Fn) (first cap : Array Value) (w : World), (Instr.makeFunc fn first cap).run Tryd.prog w = .ok (.func fn first cap) w := fun _ _ _ _ => rfl
  have CA : Kp (∀ W, Calls Tryd.prog 8 #[] W fun e w' => e = .returned (.bool true) ∧ Fr No W w') := ⟨awake_any⟩
  have HX := Kp.mk hX
  have HK := Kp.mk hK
  have HS0 := Kp.mk hs0
  have HS1 := Kp.mk hs1
  clear hX hK hs0 hs1
  obtain ⟨N, hN⟩ : ∃ N, N = names.length := ⟨_, rfl⟩
  obtain ⟨M, hM⟩ : ∃ M, M = known.length := ⟨_, rfl⟩
  rw [← hN] at hNb ⊢
  rw [← hM] at hMb ⊢
  have HN := Kp.mk hN
  have HM := Kp.mk hM
  clear hN hM
  by_cases c1 : N ≤ 300
  · have c1z : (N : Int) ≤ 300 := by omega
    by_cases c2 : M ≤ 40
    · have c2z : (M : Int) ≤ 40 := by omega
      go_enter Tryd.func4, Tryd.ntmps4
      go_upto_block 0 with (first
        | (go_at_call 8; refine (CA.out _).mono ?_; rintro e w1 ⟨rfl, f1⟩)
        | ((with_reducible refine gate_dst (N := 23) rfl ?_); refine ev_mkmap rfl 38 .string rfl ?_; intro mb w2 hmb f2 m2)
        | ((with_reducible refine gate_dst (N := 7) rfl ?_); refine ev_alloc rfl 38 rfl _ [.map none] zeroMap rfl ?_; intro gm w3 hgm f3 b3)
        | ((with_reducible refine gate_store (t := 38) (p := 7) rfl ?_); refine ev_store rfl 38 (.tmp 7) (.tmp 23) rfl gm 0 (.map (some mb)) rfl rfl rfl 38 [.map none] b3 (by decide) sizeMap ?_; intro w4 f4 b4))
      have hmb' : w.heap.size ≤ mb := Nat.le_trans f1.size hmb
      have hgm' : w.heap.size ≤ gm := Nat.le_trans f1.size (Nat.le_trans f2.size hgm)
      have F4 : Fr No w w4 := ((f1.no f2).no f3).one f4 (.inr hgm')
      have m4 : MapF w4 mb .string (fun _ => none) := (m2.no f3).keep f4 (fun h => map_ne b3 (m2.no f3) h.symm)
      have F4 := Kp.mk F4
      have B4 : Kp (Blk w4 gm 38 [.map (some mb)]) := ⟨b4⟩
      have M4 := Kp.mk m4
      clear f1 f2 f3 f4 m2 b3 b4 m4
      refine wp_u (fun u => fills_loop w known M HM.out (by omega) AK A ck N c size gm mb HK.out w4 u F4.out hmb' B4.out M4.out _ ?_ ?_) rfl
      · intro u ws fs
        go_wp2_with fail
        go_ret
        exact ⟨rfl, fs⟩
      · intro u ws fs bg hm h100
        have HG : ChB.Gets ws gm (lookK known) := ⟨fun W' hf n => clo_fills known gm mb W' (bg.no hf) (hm.no hf) n, fun n y hy => by
          have := h100 y (List.mem_of_find?_eq_some hy)
          omega⟩
        have CF : Kp (Calls Tryd.prog 23 #[.slice A N c, .int .i64 size, .func (.func 24) #[] #[.pointer (some ⟨gm, 0, none⟩)]] ws fun e w' => e = .returned (.tuple #[.string (bs (fillL (lookK known) names size).1), .int .i64 (fillL (lookK known) names size).2]) ∧ Fr No ws w') := ⟨by
          have h := ChB.fill_any ws gm (lookK known) HG names A c size HS0.out HS1.out (HX.out.fr fs) (by rw [← HN.out]; omega)
          rw [← HN.out] at h
          exact h⟩
        have CR : Kp (∀ W, Fr No ws W → Calls Tryd.prog 25 #[.slice A N c, .int .i64 size, .slice AK M ck] W fun e w' => e = .returned (.tuple #[.string (bs (fillL (lookK known) names size).1), .int .i64 (fillL (lookK known) names size).2]) ∧ Fr No W w') := ⟨fun W f => by
          have h := rfill_any W known names A AK c ck size HS0.out HS1.out (HX.out.fr (fs.no f)) (HK.out.fr (fs.no f)) (by rw [← HN.out]; omega) (by rw [← HM.out]; omega) (fun j y hy => by have := h100 y (List.mem_of_getElem? hy); omega)
          rw [← HN.out, ← HM.out] at h
          exact h⟩
        generalize fillL (lookK known) names size = R at CF CR
        clear HG h100 bg hm
        go_wp2_with (first
          | (go_at_call 23; refine CF.out.mono ?_; rintro e w5 ⟨rfl, f5⟩)
          | (go_at_call 25; refine (CR.out _ f5).mono ?_; rintro e w6 ⟨rfl, f6⟩))
        go_ret
        exact ⟨rfl, (fs.no f5).no f6⟩
    · have c2z : (40 : Int) < (M : Int) := by omega
      go_enter Tryd.func4, Tryd.ntmps4
      go_wp2_with (go_at_call 8; refine (CA.out _).mono ?_; rintro e w1 ⟨rfl, f1⟩)
      go_ret
      exact ⟨rfl, f1⟩
  · have c1z : (300 : Int) < (N : Int) := by omega
    go_enter Tryd.func4, Tryd.ntmps4
    go_wp2_with (go_at_call 8; refine (CA.out _).mono ?_; rintro e w1 ⟨rfl, f1⟩)
    go_ret
    exact ⟨rfl, f1⟩
end Go.Proofs.YtaohfmmapammcaaDoor.Ch

/- What the chunk laws' cards share: a witness, bounds, five arguments. No conditions beside those written out. -/
set_option linter.unusedSimpArgs false
set_option linter.unusedVariables false
namespace Go.Proofs.YtaohfmmapammcaaDoor
open Go.ChangeShapes Go.WideShapes Go.ChangeAt Go.RowKit

theorem Tryd.own : ownKnob Tryd.prog.godebug = none := by kernel_rfl
theorem Tryd.laidOut : laidOutB Tryd.prog = true := by kernel_rfl
/-- An input that fits, at a world that is written out. -/
theorem witness_row {H : Type} {enc : TypeId × Value → H} {C : Checked} {os : Os} {f : FuncId} {fn : Func} {s : OpenSpec} {conds : List PathCond} {apart : Bool} {laid : List (String × DataW Unit)} (modest : Bool) (w0 : World) (args : Array Value) (hos : w0.os = os)
    (hsh : (w0.forCall (fun _ _ => 0) ⟨#[], args, []⟩).Shaped C.prog)
    (hok : Input.okWideB C.prog (w0.forCall (fun _ _ => 0) ⟨#[], args, []⟩) f ⟨#[], args, []⟩ = true)
    (hrow : s.preRow enc C.prog fn conds apart laid (w0.forCall (fun _ _ => 0) ⟨#[], args, []⟩).memory args) :
    ∃ (w : World) (tape : Tape) (i : Input), w.os = os ∧ (w.forCall tape i).Shaped C.prog ∧ i.vars = [] ∧ Input.okWide C.prog (w.forCall tape i) .any w.heap.size f i ∧
      s.preRow enc C.prog fn conds apart laid (w.forCall tape i).memory i.args ∧ ({ modest := modest } : Assume).holds C.prog (lone (Frame.enter C.prog f i.args .normal) [] (w.forCall tape i)) :=
  ⟨w0, fun _ _ => 0, ⟨#[], args, []⟩, hos, hsh, (Input.okWide_of_okWideB (base := 0) hok).1, (Input.okWide_of_okWideB hok).2, hrow, by
    simp only [Assume.holds]
    exact ⟨by simp, by simp, fun _ => Modest.zero, by simp, by simp⟩⟩
theorem int_bounds {a : Int} (h : (Lit.int .i64 a).wf = true) : -9223372036854775808 ≤ a ∧ a ≤ 9223372036854775807 := by
  have h1 : IntKind.i64.min = -9223372036854775808 := rfl
  have h2 : IntKind.i64.max = 9223372036854775807 := rfl
  simp only [Lit.wf, Bool.and_eq_true, decide_eq_true_eq] at h
  omega
end Go.Proofs.YtaohfmmapammcaaDoor

/- The card ChunkFills: the row of the law, its listed variables tied to the program's text. No conditions beside the statement's own. -/
set_option linter.unusedSimpArgs false
set_option linter.unusedVariables false
namespace Go.Proofs.YtaohfmmapammcaaDoor
open Go.ChangeShapes Go.WideShapes Go.ChangeAt Go.RowKit

theorem Tryd.cellsStr : Tryd.prog.cellsOf 9 = 1 := by kernel_rfl
/-- A row of texts that came in, as names. -/
theorem names_of_strs {H : Type} {enc : TypeId × Value → H} {W : World} {a : Option Addr} {len cap : Nat} {d : DataW H} {p : List MemPlace} (h : DataW.Trod enc Tryd.prog W 0 (fun _ => true) true 35 (.slice a len cap) d p) :
    ∃ xs : List (List UInt8), (Ch.NamesC W a xs ∧ xs.length = len) ∧ ∀ {ts : List TypeId} {ds : List (DataW H)}, (DataW.weightsEach Tryd.prog ts ds).all (· ≤ reachBytes) = true → ∀ {j : Nat}, ts[j]? = some 35 → ds[j]? = some d → len ≤ reachBytes := by
  obtain ⟨fuel, hf⟩ := h
  rcases open_strings Tryd.underlying35 Tryd.underlying9 Tryd.cellsStr hf with ⟨hcs, hd⟩ | ⟨a', len', cap', ss, hcs, hcw, hl, hmx, hz, hx, hcell, hsz⟩
  · simp [Value.cells] at hcs
    obtain ⟨rfl, rfl, rfl⟩ := hcs
    exact ⟨[], ⟨⟨fun h => absurd h (by simp)⟩, rfl⟩, fun _ _ _ _ => Nat.zero_le _⟩
  · simp [Value.cells] at hcs
    obtain ⟨rfl, rfl, rfl⟩ := hcs
    simp only [if_true] at hz
    simp only [Prod.mk.injEq] at hx
    obtain ⟨rfl, rfl⟩ := hx
    have hl2 : (ss.take len).length = len := by rw [List.length_take]; omega
    have hget : ∀ j, j < len → W.cell? (a'.add j) = some (.string ((ss.take len).getD j ByteArray.empty)) := fun j hj => by
      have := hcell j (by omega)
      rw [this]
      simp [List.getD_eq_getElem?_getD, List.getElem?_take, hj]
    refine ⟨(ss.take len).map fun s => s.data.toList, ⟨⟨fun h0 => ?_⟩, by rw [List.length_map, hl2]⟩, fun hsz0 j hj hd => ?_⟩
    · rw [List.length_map, hl2] at h0
      obtain ⟨b, o, sp⟩ := a'
      have h00 := hget 0 h0
      cases sp with
      | some q =>
        exfalso
        simp [World.cell?, Addr.add] at h00
        try (split at h00 <;> simp_all)
      | none =>
        refine ⟨b, o, rfl, fun W' f i n hi => ?_⟩
        obtain ⟨s, hs, rfl⟩ : ∃ s, (ss.take len)[i]? = some s ∧ s.data.toList = n := by rw [List.getElem?_map] at hi; exact Option.map_eq_some_iff.1 hi
        have hi2 : i < len := by have := (List.getElem?_eq_some_iff.1 hs).1; omega
        have := hget i hi2
        rw [Addr.add_lit, List.getD_eq_getElem?_getD, hs] at this
        exact Ev.Fr.cell this f (fun h => h)
    · have := sized_slice hsz0 (j := j) (t := 35) (e := 9) hj hd Tryd.underlying35
      rw [show Tryd.prog.bytesOf 9 = 16 by kernel_rfl] at this
      simp only [strs, List.length_map, List.length_take, List.length_drop] at this
      omega

set_option maxRecDepth 100000 in
theorem chunkFills_lifted (os : Os) (started : os.Started) (H : Type) (enc : TypeId × Value → H) (F : Stop.Interp) :
    ReturnsInHanded {} Tryd.checked os 4 .any ((OpenSpec.ofChange Rows.chunkFillsSpec).preRow enc Tryd.prog Tryd.f4 Rows.chunkFillsRow.domain false Rows.chunkFillsRow.laid) (((OpenSpec.ofChange Rows.chunkFillsSpec).at F).post enc Tryd.prog Tryd.f4 false true false false) := by
  have hx : ∃ places, DataW.whole enc Tryd.prog ((World.laidAll Tryd.prog os Rows.chunkFillsRow.laid).forCall (fun _ _ => 0) ⟨#[], #[.slice none 0 0, .slice none 0 0, .int .i64 0], []⟩).memory Tryd.f4.params.toList Rows.chunkFillsSpec.vars false #[Value.slice none 0 0, .slice none 0 0, .int .i64 0].toList 8 = some ([.nil, .nil, .lit (.int .i64 0)], [], places) := ⟨[], by kernel_rfl⟩
  obtain ⟨places, hx⟩ := hx
  refine returnsInHanded_of_row (C := Tryd.checked) (s := OpenSpec.ofChange Rows.chunkFillsSpec) Tryd.own started (by kernel_rfl) Tryd.func4
    (witness_row (enc := enc) (C := Tryd.checked) false (World.laidAll Tryd.prog os Rows.chunkFillsRow.laid) #[.slice none 0 0, .slice none 0 0, .int .i64 0] (World.laidAll_os _ _ _) (World.shaped_of_ZipB (by kernel_rfl) (by kernel_rfl)) (by kernel_rfl)
      (OpenSpec.preRow_of_cond 8 hx (by kernel_rfl) (fun k hk => by cases hk) (by kernel_rfl) (by rw [MakeChecks.laidMetH_plain _ _ _ (by kernel_rfl)]; exact laidMet_laidAll _ (by kernel_rfl) (by kernel_rfl)))) ?_
  intro W base args ds gs before hval0 hW _ _ hsz0 _ _ _
  have hszz : (DataW.weightsEach Tryd.prog (Tryd.f4.params.toList ++ Rows.chunkFillsSpec.plain.varTypes Tryd.prog) (ds ++ gs)).all (· ≤ reachBytes) = true := hsz0
  clear hsz0
  have hval : ∀ (j : Nat) t v, Tryd.f4.params[j]? = some t → args[j]? = some v → Value.okWide Tryd.prog W .any base t v := hval0
  have hW' := hW
  obtain ⟨p, q, hA0, hV, rfl, _, _⟩ := hW
  have hA : DataW.TrodAll enc Tryd.prog W 0 (fun _ => true) true Tryd.f4.params.toList args.toList ds p := hA0
  rw [Tryd.params4] at hA hval hszz
  obtain ⟨v0, v1, v2, d0, d1, d2, p0, p1, p2, rfl, rfl, rfl, h0, h1, h2⟩ := trodAll_three hA
  obtain ⟨rfl, rfl⟩ := trodVars_none hV
  obtain ⟨m, rfl, rfl, rfl, wm⟩ := open_int Tryd.underlying3 (hval 2 3 v2 rfl rfl) h2
  obtain ⟨a0, len0, cap0, rfl⟩ := okWide_slice Tryd.underlying35 (hval 0 35 v0 rfl rfl)
  obtain ⟨a1, len1, cap1, rfl⟩ := okWide_slice Tryd.underlying35 (hval 1 35 v1 rfl rfl)
  have zm := int_bounds wm
  simp only [List.append_nil] at hW'
  have hlt : ∀ x ∈ p0 ++ p1, x.block < W.heap.size := fun x hx => by simpa using hW'.lt x (by simpa using hx)
  have hargs0 : ∀ (W' : World), Below W.heap.size W W' → DataW.Trod enc Tryd.prog W' 0 (fun b => decide (b < W.heap.size)) true 35 (.slice a0 len0 cap0) d0 p0 :=
    fun W' hn => Below.trod Tryd.laidOut (by kernel_rfl) (of_decide_eq_true (by kernel_rfl)) h0 hn (fun x hx => hlt x (by simp [hx]))
  have hargs1 : ∀ (W' : World), Below W.heap.size W W' → DataW.Trod enc Tryd.prog W' 0 (fun b => decide (b < W.heap.size)) true 35 (.slice a1 len1 cap1) d1 p1 :=
    fun W' hn => Below.trod Tryd.laidOut (by kernel_rfl) (of_decide_eq_true (by kernel_rfl)) h1 hn (fun x hx => hlt x (by simp [hx]))
  obtain ⟨xs0, hx0, hl0⟩ := names_of_strs h0
  obtain ⟨xs1, hx1, hl1⟩ := names_of_strs h1
  have z0 := hl0 hszz (j := 0) rfl rfl
  have z1 := hl1 hszz (j := 1) rfl rfl
  have hrb : reachBytes < 2 ^ 47 := reachBytes_lt
  obtain ⟨n0, e0⟩ := hx0
  obtain ⟨n1, e1⟩ := hx1
  have hc := Ch.fills_any W xs0 xs1 a0 a1 cap0 cap1 m zm.1 zm.2 n0 n1 (by omega) (by omega)
  rw [e0, e1] at hc
  refine hc.mono fun e W' ⟨he, hf⟩ => ?_
  subst he
  have hnx := hf.below
  refine ⟨_, rfl, _, _, _, [], p0 ++ (p1 ++ []), [], hW', ?_, trodAll_mk3 (hargs0 _ hnx) (hargs1 _ hnx) (shut_int Tryd.underlying3 wm), rfl, hnx.frame _, fun h => by cases h⟩
  exact trodAll_mk1 (shut_bool Tryd.underlying4 true)

theorem chunkFills_said : Rows.ChunkFillsSaid :=
  OpenClaim.holds_of_cond 4 Tryd.f4 rfl rfl rfl rfl rfl rfl rfl ⟨rfl, rfl, rfl, rfl, rfl⟩ rfl rfl rfl rfl rfl (by kernel_rfl) Tryd.func4 (by kernel_rfl)
    (of_decide_eq_true (by kernel_rfl)) (by unfold Func.isWrapper; first | (rw [if_pos (by decide +kernel)]; kernel_rfl) | (rw [if_neg (by decide +kernel)]; exact ⟨rfl, rfl⟩))
    (fun os started H enc _ F => by rw [OpenClaim.pre_eq_preRow]; exact chunkFills_lifted os started H enc F)

theorem chunkFills_plain (f : FuncId) (fn : Func) (hf : Tryd.pinned.checked.prog.funcNamed "snapferry/snapferrylaw06.ChunkFills" = some f) (hfn : Tryd.pinned.checked.prog.funcs[f]? = some fn) :
    false = Tryd.pinned.checked.prog.looks [] ∧ ∀ (j : Nat) t, fn.params[j]? = some t → Tryd.pinned.checked.prog.wantsStandIn t = false := by
  obtain rfl : f = 4 := Option.some.inj ((show Tryd.prog.funcNamed "snapferry/snapferrylaw06.ChunkFills" = some 4 by kernel_rfl).symm.trans hf) |>.symm
  obtain rfl : fn = Tryd.f4 := (Option.some.inj (Tryd.func4.symm.trans hfn)).symm
  refine ⟨by kernel_rfl, fun j t ht => ?_⟩
  rw [Tryd.params4] at ht
  have hm : t ∈ [35, 35, 3] := by simpa using Array.mem_of_getElem? ht
  have hall : ([35, 35, 3].all fun u => !Tryd.prog.wantsStandIn u) = true := by kernel_rfl
  exact (show Tryd.prog.wantsStandIn t = false by simpa using List.all_eq_true.1 hall t hm)

theorem chunkFills_card : Rows.ChunkFillsCardSaid :=
  Claim7.holds_tied_plain_at .later [] _ _ _ _ chunkFills_said (fun _ h => by cases h) (by kernel_rfl) (fun _ h => by cases h) chunkFills_row_tie rfl ⟨rfl, rfl⟩ (by kernel_rfl) rfl chunkFills_plain (by kernel_rfl)
end Go.Proofs.YtaohfmmapammcaaDoor
