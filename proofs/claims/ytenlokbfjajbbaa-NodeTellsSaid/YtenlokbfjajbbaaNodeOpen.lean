/- Nodes as arguments, opened. No conditions beside those written out. -/
import Derived.Test.YtenlokbfjajbbaaNodeDefs
import Derived.Test.YtenlokbfjajbbaaProg
import Derived.Deep.Slices
import Derived.Deep.Fields
import Derived.ChangeSame
import Derived.Lib.SmallJoins
set_option linter.unusedSimpArgs false
set_option linter.unusedVariables false
namespace Go.Proofs.Ytenlokbfjajbbaa.Nd
open Go Go.Joins Go.ChangeShapes Go.WideShapes Go.RowKit Go.Deep Go.Proofs.Ytenlokbfjajbbaa.Ev

section
variable {H : Type} {enc : TypeId × Value → H} {P : Program} {w : World} {base : Nat} {spare : Nat → Bool} {held : Bool}
theorem open_slice_fields {t e : TypeId} {fs : Array Field} {fuel : Nat} {cs : List Value} {x : DataW H × List MemPlace} (ht : P.underlying t = some (.slice e)) (he : P.underlying e = some (.struct fs))
    (hone : oneCellFields P fs = true) (hC : P.cellsOf e = fs.size) (h : DataW.trod enc P w base spare held fuel t cs = some x) :
    (cs = [.slice none 0 0] ∧ x = (.nil, [])) ∨
    ∃ (a : Addr) (len cap m : Nat) (D : Nat → DataW H) (Pl : Nat → List MemPlace), cs = [.slice (some a) len cap] ∧ base ≤ a.block ∧ len ≤ cap ∧ cap ≤ maxLen ∧ m = (if spare a.block then cap else len) ∧
      x = (.slice ((List.range len).map D) ((List.range (m - len)).map fun j => D (len + j)), MemPlace.row a (m * fs.size) ++ (List.range m).flatMap Pl) ∧
      ∀ i, i < m → ∃ (ys : List (DataW H × List MemPlace)) (n : Nat), D i = .agg (ys.map (·.1)) ∧ Pl i = ys.flatMap (·.2) ∧ ys.length = fs.size ∧
        ∀ (j : Nat) (f : Field), fs[j]? = some f → ∃ (v : Value) (y : DataW H × List MemPlace), w.cell? (a.add (i * fs.size + j)) = some v ∧ ys[j]? = some y ∧ DataW.trod enc P w base spare held n f.type [v] = some y := by
  rcases open_slice ht h with h0 | ⟨a, len, cap, m, n, D, Pl, hcs, hb, hl, hm, hmm, hx, hi⟩
  · exact .inl h0
  · refine .inr ⟨a, len, cap, m, D, Pl, hcs, hb, hl, hm, hmm, by rw [hC] at hx; exact hx, fun i him => ?_⟩
    obtain ⟨cs', hc, ht'⟩ := hi i him
    rw [hC] at hc
    obtain ⟨ys, n', hn', hy, hlen, hyl, hf⟩ := DataW.trod_struct he ht'
    obtain ⟨_, hcl, hat⟩ := World.cells?_some hc
    simp only [Prod.mk.injEq] at hy
    refine ⟨ys, n', hy.1, hy.2, hyl, fun j f hj => ?_⟩
    obtain ⟨ho, hk⟩ := hone_of hone j f hj
    have hjl : j < fs.size := (Array.getElem?_eq_some_iff.1 hj).1
    have hcell := hat j hjl
    have hv : cs'[j]? = some (cs'[j]'(by omega)) := List.getElem?_eq_getElem (by omega)
    have h1 := hf j f hj
    rw [ho, hk] at h1
    have hone' : (cs'.drop j).take 1 = [cs'[j]'(by omega)] := by
      rw [List.drop_eq_getElem_cons (by omega)]
      rfl
    rw [hone'] at h1
    have hys : ys[j]? = some (ys[j]'(by omega)) := List.getElem?_eq_getElem (by omega)
    refine ⟨_, _, ?_, hys, h1.trans hys⟩
    rw [← Go.Deep.add_add, hcell, hv]
end

section
variable {H : Type} {enc : TypeId × Value → H} {P : Program} {w : World} {base : Nat} {spare : Nat → Bool} {held : Bool}
theorem open_agg5 {r : Reach} {b0 : Nat} {t : TypeId} {f0 f1 f2 f3 f4 : Field} {v : Value} {d : DataW H} {p : List MemPlace} (hs : P.underlying t = some (.struct #[f0, f1, f2, f3, f4])) (hone : oneCellFields P #[f0, f1, f2, f3, f4] = true) (hC : P.cellsOf t = 5)
    (hv : Value.okWide P w r b0 t v) (h : DataW.Trod enc P w base spare held t v d p) :
    ∃ (v0 v1 v2 v3 v4 : Value) (y0 y1 y2 y3 y4 : DataW H × List MemPlace) (n : Nat), v = .agg #[v0, v1, v2, v3, v4] ∧ d = .agg [y0.1, y1.1, y2.1, y3.1, y4.1] ∧ p = y0.2 ++ (y1.2 ++ (y2.2 ++ (y3.2 ++ y4.2))) ∧
      DataW.trod enc P w base spare held n f0.type [v0] = some y0 ∧ DataW.trod enc P w base spare held n f1.type [v1] = some y1 ∧ DataW.trod enc P w base spare held n f2.type [v2] = some y2 ∧ DataW.trod enc P w base spare held n f3.type [v3] = some y3 ∧ DataW.trod enc P w base spare held n f4.type [v4] = some y4 := by
  obtain ⟨cs, rfl, hsz⟩ := okWide_struct hs hv
  obtain ⟨l⟩ := cs
  match l, hsz.trans hC with
  | [c0, c1, c2, c3, c4], _ =>
    obtain ⟨fuel, hf⟩ := h
    obtain ⟨xs, n, _, hx, _, hlen, hg⟩ := DataW.trod_struct hs hf
    obtain ⟨o0, k0⟩ := hone_of hone 0 f0 rfl
    obtain ⟨o1, k1⟩ := hone_of hone 1 f1 rfl
    obtain ⟨o2, k2⟩ := hone_of hone 2 f2 rfl
    obtain ⟨o3, k3⟩ := hone_of hone 3 f3 rfl
    obtain ⟨o4, k4⟩ := hone_of hone 4 f4 rfl
    match xs, hlen with
    | [y0, y1, y2, y3, y4], _ =>
      simp only [Prod.mk.injEq] at hx
      exact ⟨c0, c1, c2, c3, c4, y0, y1, y2, y3, y4, n, rfl, by simpa using hx.1, by simpa using hx.2, by simpa [Value.cells, o0, k0] using hg 0 f0 rfl, by simpa [Value.cells, o1, k1] using hg 1 f1 rfl, by simpa [Value.cells, o2, k2] using hg 2 f2 rfl, by simpa [Value.cells, o3, k3] using hg 3 f3 rfl, by simpa [Value.cells, o4, k4] using hg 4 f4 rfl⟩
end

section
variable {H : Type} {enc : TypeId × Value → H} {w : World} {base : Nat} {spare : Nat → Bool} {held : Bool}
set_option maxRecDepth 100000 in
/-- A node that is handed: its cells, and its entries in memory. -/
theorem open_node {r : Reach} {b0 : Nat} {v : Value} {d : DataW H} {p : List MemPlace} (hv : Value.okWide Try.prog w r b0 56 v) (h : DataW.Trod enc Try.prog w base spare held 56 v d p) :
    ∃ (N : Nd) (x : Value), v = ndV N x ∧ EntS w x N.ents := by
  obtain ⟨v0, v1, v2, v3, v4, y0, y1, y2, y3, y4, n, rfl, _, _, h0, h1, h2, h3, h4⟩ := open_agg5 Try.underlying56 (by kernel_rfl) (by kernel_rfl) hv h
  obtain ⟨k, hk, _, _⟩ := DataW.trod_int Try.underlying3 h0
  obtain ⟨m, hm, _, _⟩ := DataW.trod_int Try.underlying3 h1
  obtain ⟨dd, hd, _, _⟩ := DataW.trod_string Try.underlying9 h2
  obtain ⟨tt, ht, _, _⟩ := DataW.trod_string Try.underlying9 h3
  simp only [List.cons.injEq, and_true] at hk hm hd ht
  subst hk hm hd ht
  rcases open_slice_fields Try.underlying54 Try.underlying75 (by kernel_rfl) (by kernel_rfl) h4 with ⟨hc, _⟩ | ⟨a, len, cap, mm, D, Pl, hc, _, hl, hmx, hmm, _, hi⟩
  · simp only [List.cons.injEq, and_true] at hc
    subst hc
    exact ⟨⟨k, m, dd, tt, []⟩, _, rfl, EntS.nil _⟩
  · simp only [List.cons.injEq, and_true] at hc
    subst hc
    have hlm : len ≤ mm := by rw [hmm]; split <;> omega
    have hcell : ∀ i, i < len → ∃ (nm : ByteArray) (z : Int), w.cell? (a.add (i * 2)) = some (.string nm) ∧ w.cell? (a.add (i * 2 + 1)) = some (.int .i64 z) := fun i hil => by
      obtain ⟨ys, n', _, _, _, hf⟩ := hi i (by omega)
      obtain ⟨u0, z0, hc0, _, ht0⟩ := hf 0 _ rfl
      obtain ⟨u1, z1, hc1, _, ht1⟩ := hf 1 _ rfl
      obtain ⟨nm, e0, _, _⟩ := DataW.trod_string Try.underlying9 ht0
      obtain ⟨z, e1, _, _⟩ := DataW.trod_int Try.underlying3 ht1
      simp only [List.cons.injEq, and_true] at e0 e1
      subst e0 e1
      exact ⟨nm, z, hc0, hc1⟩
    have hch : ∃ f : Nat → Ent, ∀ i, i < len → w.cell? (a.add (i * 2)) = some (.string (f i).1) ∧ w.cell? (a.add (i * 2 + 1)) = some (.int .i64 (f i).2) := by
      refine ⟨fun i => if h : i < len then ((hcell i h).choose, (hcell i h).choose_spec.choose) else default, fun i hil => ?_⟩
      simp only [dif_pos hil]
      exact (hcell i hil).choose_spec.choose_spec
    obtain ⟨f, hf⟩ := hch
    have hlen : ((List.range len).map f).length = len := by simp
    refine ⟨⟨k, m, dd, tt, (List.range len).map f⟩, _, rfl, ⟨⟨some a, cap, by rw [hlen], by rw [hlen]; exact hl, by simpa [maxLen] using hmx, fun h0 => ?_⟩⟩⟩
    rw [hlen] at h0
    have hget : ∀ j, j < len → ((List.range len).map f).getD j default = f j := fun j hj => by simp [List.getD_eq_getElem?_getD, hj]
    obtain ⟨b, o, sp⟩ := a
    have h00 := (hf 0 h0).1
    cases sp with
    | some q =>
      exfalso
      simp [World.cell?, Addr.add] at h00
      try (split at h00 <;> simp_all)
    | none =>
      refine ⟨b, o, rfl, ?_, fun j hj => ?_⟩
      · rw [Addr.add_lit] at h00
        exact World.block_lt_of_cell? w _ h00
      · rw [hlen] at hj
        have := hf j hj
        rw [Addr.add_lit, Addr.add_lit] at this
        rw [hget j hj]
        exact this
end
end Go.Proofs.Ytenlokbfjajbbaa.Nd
