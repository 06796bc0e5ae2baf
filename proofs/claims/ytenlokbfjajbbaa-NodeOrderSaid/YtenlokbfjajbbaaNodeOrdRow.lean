/- The row NodeOrder. No conditions beside the statement's own. -/
import Derived.Test.YtenlokbfjajbbaaNodeOrder
import Derived.Test.YtenlokbfjajbbaaRows
import Derived.ProofKit
import Derived.SliceStrings
import Derived.SizedLaws
set_option linter.unusedSimpArgs false
set_option linter.unusedVariables false
namespace Go.Proofs.Ytenlokbfjajbbaa
open Go.ChangeShapes Go.WideShapes Go.ChangeAt Go.RowKit

theorem Try.own : ownKnob Try.prog.godebug = none := by kernel_rfl
theorem Try.laidOut : laidOutB Try.prog = true := by kernel_rfl
theorem Try.cellsStr : Try.prog.cellsOf 9 = 1 := by kernel_rfl

set_option maxRecDepth 100000 in
theorem nodeOrder_lifted (os : Os) (started : os.Started) (H : Type) (enc : TypeId × Value → H) :
    ReturnsInHanded {} Try.checked os 10 .any (Rows.nodeOrderSpec.pre6 enc Try.prog Try.f10 Rows.nodeOrderRow.domain false) (Rows.nodeOrderSpec.post enc Try.prog Try.f10 false true false false) := by
  refine returnsInHanded_of_change_sized (C := Try.checked) Try.own started (by kernel_rfl) Try.func10
    (ChangeSpec.witness6 (enc := enc) (C := Try.checked) false ⟨#[], #[.slice none 0 0, .int .i64 0], []⟩ 8 (by kernel_rfl) (by kernel_rfl) (by kernel_rfl) (by kernel_rfl)) ?_
  intro W base args ds gs before hval0 hW _ hsz0 _
  clear hsz0
  have hval : ∀ (j : Nat) t v, Try.f10.params[j]? = some t → args[j]? = some v → Value.okWide Try.prog W .any base t v := hval0
  have hW' := hW
  obtain ⟨p, q, hA0, hV, rfl, _, _⟩ := hW
  have hA : DataW.TrodAll enc Try.prog W 0 (fun _ => true) true Try.f10.params.toList args.toList ds p := hA0
  rw [Try.params10] at hA hval
  obtain ⟨v0, v1, d0, d1, p0, p1, rfl, rfl, rfl, h0, h1⟩ := trodAll_two hA
  obtain ⟨rfl, rfl⟩ := trodVars_none hV
  obtain ⟨m, rfl, rfl, rfl, wm⟩ := open_int Try.underlying3 (hval 1 3 v1 rfl rfl) h1
  obtain ⟨a0, len, cap, rfl⟩ := okWide_slice Try.underlying22 (hval 0 22 v0 rfl rfl)
  have h0k := h0
  obtain ⟨fuel, hf⟩ := h0
  clear hA0 hval0
  simp only [List.append_nil] at hW'
  have hlt : ∀ x ∈ p0, x.block < W.heap.size := fun x hx => by simpa using hW'.lt x hx
  have hargs : ∀ (W' : World), Below W.heap.size W W' → DataW.Trod enc Try.prog W' 0 (fun b => decide (b < W.heap.size)) true 22 (.slice a0 len cap) d0 p0 :=
    fun W' hn => Below.trod Try.laidOut (by kernel_rfl) (of_decide_eq_true (by kernel_rfl)) h0k hn hlt
  have hS : ∃ xs, Ev.StrS W (.slice a0 len cap) xs := by
    rcases open_strings Try.underlying22 Try.underlying9 Try.cellsStr hf with ⟨hcs, _⟩ | ⟨a, len', cap', ss, hcs, _, hl, hmx, hz, hx, hcell, hsz⟩
    · simp [Value.cells] at hcs
      obtain ⟨rfl, rfl, rfl⟩ := hcs
      exact ⟨[], Ev.StrS.nil _⟩
    · simp [Value.cells] at hcs
      obtain ⟨rfl, rfl, rfl⟩ := hcs
      simp only [if_true] at hz
      have hl2 : (ss.take len).length = len := by rw [List.length_take]; omega
      have hget : ∀ j, j < len → W.cell? (a.add j) = some (.string ((ss.take len).getD j ByteArray.empty)) := fun j hj => by
        have := hcell j (by omega)
        rw [this]
        simp [List.getD_eq_getElem?_getD, List.getElem?_take, hj]
      refine ⟨ss.take len, ⟨⟨some a, cap, by rw [hl2], by rw [hl2]; exact hl, by simpa [maxLen] using Nat.le_trans hmx (by decide), fun hp => ?_⟩⟩⟩
      rw [hl2] at hp
      obtain ⟨b, o, sp⟩ := a
      have h00 := hget 0 hp
      cases sp with
      | some q =>
        exfalso
        simp [World.cell?, Addr.add] at h00
        try (split at h00 <;> simp_all)
      | none =>
        refine ⟨b, o, rfl, ?_, fun j hj => ?_⟩
        · rw [Addr.add_lit] at h00
          exact World.block_lt_of_cell? W _ h00
        · rw [hl2] at hj
          have := hget j hj
          rwa [Addr.add_lit] at this
  obtain ⟨xs, hS⟩ := hS
  refine (Nd.order_any _ xs m W hS).mono fun e W' ⟨he, hf⟩ => ?_
  subst he
  have hnx := hf.below
  refine ⟨_, rfl, _, _, _, [], p0 ++ [], [], hW', ?_, trodAll_mk2 (hargs _ hnx) (shut_int Try.underlying3 wm), rfl, hnx.frame _, fun h => by cases h⟩
  exact trodAll_mk1 (shut_bool Try.underlying4 true)

theorem nodeOrder_holds : Rows.NodeOrderSaid :=
  OpenClaim.holds_of_wide 10 Try.f10 rfl rfl rfl rfl rfl rfl rfl ⟨rfl, rfl, rfl, rfl, rfl⟩ rfl rfl rfl rfl rfl (by kernel_rfl) Try.func10 (by kernel_rfl)
    (of_decide_eq_true (by kernel_rfl)) (by unfold Func.isWrapper; first | (rw [if_pos (by decide +kernel)]; kernel_rfl) | (rw [if_neg (by decide +kernel)]; exact ⟨rfl, rfl⟩))
    (fun os started H enc _ => nodeOrder_lifted os started H enc)
end Go.Proofs.Ytenlokbfjajbbaa
