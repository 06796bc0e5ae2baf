/- slices.Clone, Insert and Delete at entries, as node calls them. Conditions: the entries' number is bounded, as written out. -/
import Derived.Test.YtenlokbfjajbbaaNodeDefs
import Derived.Test.YtenlokbfjajbbaaEv2
import Derived.Test.YtenlokbfjajbbaaReg
import Derived.Test.YtenlokbfjajbbaaProg
import Derived.Lib.SliceRun
set_option linter.unusedSimpArgs false
set_option linter.unusedVariables false
namespace Go.Proofs.Ytenlokbfjajbbaa.Nd
open Go Go.RowKit Go.Proofs.YtenlokbfjajbbaaW.PrintWords Go.Proofs.Ytenlokbfjajbbaa.Ev Go.Proofs.Ytenlokbfjajbbaa.Reg

theorem infoE : (Try.prog.info? 75).map (fun i => (i.zero, i.size, i.bytes)) = some (some (.agg [.string ⟨#[]⟩, .int .i64 0].toArray), 2, 24) := by kernel_rfl
theorem sizeE : (Try.prog.info? 75).map (·.size) = some 2 := by kernel_rfl
theorem entsV_len : ∀ es : List Ent, (entsV es).length = es.length * 2
  | [] => rfl
  | e :: es => by have := entsV_len es; simp [entsV, entV] at this ⊢; omega
theorem entsV_one (es : List Ent) : ∀ u ∈ entsV es, u.oneCell' = true := by
  intro u hu
  simp only [entsV, List.mem_flatMap, entV] at hu
  obtain ⟨e, _, hu⟩ := hu
  rcases List.mem_cons.1 hu with rfl | hu
  · rfl
  · rcases List.mem_cons.1 hu with rfl | hu
    · rfl
    · cases hu
theorem entsV_append (a b : List Ent) : entsV (a ++ b) = entsV a ++ entsV b := by simp [entsV]
theorem entsV_at : ∀ (es : List Ent) (j : Nat), j < es.length → (entsV es)[j * 2]? = some (.string (es.getD j default).1) ∧ (entsV es)[j * 2 + 1]? = some (.int .i64 (es.getD j default).2)
  | [], j, h => absurd h (Nat.not_lt_zero _)
  | e :: es, 0, _ => by simp [entsV, entV]
  | e :: es, j + 1, h => by
    have := entsV_at es j (by simpa using h)
    have e1 : (j + 1) * 2 = j * 2 + 1 + 1 := by omega
    simp only [entsV, List.flatMap_cons, entV, List.cons_append, List.nil_append, e1, List.getElem?_cons_succ, List.getD_cons_succ] at this ⊢
    exact this
/-- Cell u of the entries stands in memory. -/
theorem entsV_cell {w : World} {b o : Nat} {es : List Ent} (h : ∀ j, j < es.length → w.cell? ⟨b, o + j * 2, none⟩ = some (.string (es.getD j default).1) ∧ w.cell? ⟨b, o + j * 2 + 1, none⟩ = some (.int .i64 (es.getD j default).2)) :
    ∀ j u, (entsV es)[j]? = some u → w.cell? ⟨b, o + j, none⟩ = some u := by
  intro j u hu
  have hl := (List.getElem?_eq_some_iff.1 hu).1
  rw [entsV_len] at hl
  have h1 := entsV_at es (j / 2) (by omega)
  have h2 := h (j / 2) (by omega)
  by_cases hj : j % 2 = 0
  · have e : j / 2 * 2 = j := by omega
    rw [e] at h1 h2
    rw [h2.1, ← h1.1, hu]
  · have e : j / 2 * 2 + 1 = j := by omega
    have e' : o + j / 2 * 2 + 1 = o + j := by omega
    rw [e] at h1
    rw [e'] at h2
    rw [h2.2, ← h1.2, hu]

/-- A row of the call's own reads as entries. -/
theorem own_ents {w : World} {base n : Nat} {v : Value} {es : List Ent} (h : w.ownsRow base 75 2 v n (entsV es)) (hn : n = es.length) : EntS w v es := by
  subst hn
  rcases h.2 with ⟨rfl, h0⟩ | ⟨g, cap, cur, rfl, hbg, hg, hnc, hcm, hcs, htake⟩
  · have : es = [] := List.eq_nil_of_length_eq_zero h0
    subst this
    exact EntS.nil w
  · refine ⟨⟨_, _, rfl, hnc, by simpa [maxLen] using hcm, fun hp => ⟨g, 0, rfl, (Array.getElem?_eq_some_iff.1 hg).1, fun j hj => ?_⟩⟩⟩
    have hc : ∀ k u, (entsV es)[k]? = some u → w.cell? ⟨g, 0 + k, none⟩ = some u := fun k u hu => by
      have := h.cells (g := g) rfl k u hu
      rwa [Addr.add_lit] at this
    have := entsV_at es j hj
    exact ⟨hc _ _ this.1, hc _ _ this.2⟩

set_option maxHeartbeats 2000000 in
set_option maxRecDepth 100000 in
theorem clone_any (v : Value) (es : List Ent) (w : World) (hs : EntS w v es) (hm : es.length ≤ 1099511627776) :
    Calls Try.prog 81 #[v] w fun e w' => ∃ v', e = .returned v' ∧ w'.ownsRow w.heap.size 75 2 v' es.length (entsV es) ∧ Fr No w w' := by
  obtain ⟨A, c, rfl, h1, h2, h3⟩ := hs.out
  have H3 := Kp.mk h3
  clear h3 hs
  have q := fun (w : World) (a : Option Addr) (n c n' c' : Nat) => Lib.run_eql_slice_nil (P := Try.prog) w 54 75 a n c n' c' Try.underlying54
  cases A with
  | none =>
    have : es = [] := by
      cases es with
      | nil => rfl
      | cons e es => obtain ⟨b, o, hh, _⟩ := H3.out (by simp); cases hh
    subst this
    go_enter Try.func81, Try.ntmps81
    go_wp2
    go_ret
    exact ⟨_, rfl, World.ownsRow_nil _ _ _ _, Fr.refl _ _⟩
  | some ad =>
    have hcell : Kp (∀ j u, (entsV es)[j]? = some u → w.cell? (ad.add j) = some u) := ⟨fun j u hu => by
      have hl := (List.getElem?_eq_some_iff.1 hu).1
      rw [entsV_len] at hl
      obtain ⟨b, o, hh, _, hc⟩ := H3.out (by omega)
      injection hh with hh
      subst hh
      rw [Addr.add_lit]
      exact entsV_cell hc j u hu⟩
    go_enter Try.func81, Try.ntmps81
    go_wp2_with (first | ((with_reducible refine gate_dst (N := 5) rfl ?_); refine ev_lit rfl 75 [] 0 (by first | (go_simp; done) | (go_simp; rfl)) ?_; intro g5 w1 hg5 f1 b5) | ((with_reducible refine gate_dst (N := 7) rfl ?_); refine ev_append rfl (.tmp 5) (.tmp 6) 54 75 _ 2 24 rfl Try.underlying54 infoE rfl (by decide) (by decide) w.heap.size _ 0 [] rfl (Blk.owns b5 rfl (by simp [maxLen]) hg5) (by have := f1.size; omega) ad es.length c (entsV es) rfl (entsV_len es) (fun j u hu => Fr.cell (hcell.out j u hu) f1 (fun hh => hh)) (entsV_one es) (by omega) ?_; intro A7 c7 w2 o7 f2 hat))
    go_ret
    refine ⟨_, rfl, by simpa using o7, f1.trans f2 (fun k hk => ?_)⟩
    have : some g5 = some k := hk
    injection this with this
    exact .inr (by omega)
end Go.Proofs.Ytenlokbfjajbbaa.Nd
