/- The row DigestTells. No conditions beside the statement's own. -/
import Derived.Test.YtenlokbfjajbbaaTells
import Derived.Test.YtenlokbfjajbbaaRows
import Derived.ProofKit
import Derived.SliceStrings
import Derived.SizedLaws
set_option linter.unusedSimpArgs false
set_option linter.unusedVariables false
namespace Go.Proofs.Ytenlokbfjajbbaa
open Go.ChangeShapes Go.WideShapes Go.ChangeAt Go.RowKit

theorem Try.own : ownKnob Try.prog.godebug = none := by kernel_rfl
theorem Try.laidOut : laidOutB Try.prog = true := by kernel_rfl
theorem Try.cells9 : Try.prog.cellsOf 9 = 1 := by kernel_rfl

/-- Each text of a handed row is within the reach. -/
theorem mem_weightsAll {H : Type} {P : Program} {e : TypeId} : ∀ {l : List (DataW H)} {d : DataW H}, d ∈ l → ∀ n ∈ d.weights P e, n ∈ DataW.weightsAll P e l
  | d0 :: l, d, hd, n, hn => by
    simp only [DataW.weightsAll, List.mem_append]
    rcases List.mem_cons.1 hd with rfl | hd
    · exact .inl hn
    · exact .inr (mem_weightsAll hd n hn)
  | [], _, hd, _, _ => by cases hd
theorem sized_text {H : Type} {P : Program} {ts : List TypeId} {ds : List (DataW H)} (h : (DataW.weightsEach P ts ds).all (· ≤ reachBytes) = true) {j : Nat} {t e : TypeId} {elems spare : List (DataW H)} (ht : ts[j]? = some t) (hd : ds[j]? = some (.slice elems spare)) (hu : P.underlying t = some (.slice e))
    (s : ByteArray) (hs : (.lit (.string s.data.toList) : DataW H) ∈ elems) : s.size ≤ reachBytes := by
  have h1 : s.data.toList.length ∈ (.lit (.string s.data.toList) : DataW H).weights P e := by simp [DataW.weights]
  have h2 := List.all_eq_true.1 h _ (DataW.weights_mem_each ht hd s.data.toList.length (by simp only [DataW.weights, hu, List.mem_cons, List.mem_append]; first | exact .inr (.inl (mem_weightsAll hs _ h1)) | exact .inr (mem_weightsAll hs _ h1) | simp [mem_weightsAll hs _ h1]))
  have h3 : s.data.toList.length ≤ reachBytes := by simpa using h2
  rwa [Array.length_toList] at h3

set_option maxRecDepth 100000 in
theorem digestTells_lifted (os : Os) (started : os.Started) (H : Type) (enc : TypeId × Value → H) :
    ReturnsInHanded {} Try.checked os 3 .any (Rows.digestTellsSpec.pre6 enc Try.prog Try.f3 Rows.digestTellsRow.domain false) (Rows.digestTellsSpec.post enc Try.prog Try.f3 false true false false) := by
  refine returnsInHanded_of_change_sized (C := Try.checked) Try.own started (by kernel_rfl) Try.func3
    (ChangeSpec.witness6 (enc := enc) (C := Try.checked) false ⟨#[], #[.slice none 0 0, .int .u8 0], []⟩ 8 (by kernel_rfl) (by kernel_rfl) (by kernel_rfl) (by kernel_rfl)) ?_
  intro W base args ds gs before hval0 hW _ hsz0 _
  have hszz : (DataW.weightsEach Try.prog (Try.f3.params.toList ++ Rows.digestTellsSpec.plain.varTypes Try.prog) (ds ++ gs)).all (· ≤ reachBytes) = true := hsz0
  clear hsz0
  have hval : ∀ (j : Nat) t v, Try.f3.params[j]? = some t → args[j]? = some v → Value.okWide Try.prog W .any base t v := hval0
  have hW' := hW
  obtain ⟨p, q, hA0, hV, rfl, _, _⟩ := hW
  have hA : DataW.TrodAll enc Try.prog W 0 (fun _ => true) true Try.f3.params.toList args.toList ds p := hA0
  rw [Try.params3] at hA hval hszz
  obtain ⟨v0, v1, d0, d1, p0, p1, rfl, rfl, rfl, h0, h1⟩ := trodAll_two hA
  obtain ⟨rfl, rfl⟩ := trodVars_none hV
  obtain ⟨m, rfl, rfl, rfl, wm⟩ := open_int Try.underlying5 (hval 1 5 v1 rfl rfl) h1
  obtain ⟨a0, len, cap, rfl⟩ := okWide_slice Try.underlying22 (hval 0 22 v0 rfl rfl)
  have h0k := h0
  obtain ⟨fuel, hf⟩ := h0
  clear hA0 hval0
  simp only [List.append_nil] at hW'
  have hlt : ∀ x ∈ p0, x.block < W.heap.size := fun x hx => by simpa using hW'.lt x hx
  have hargs : ∀ (W' : World), Below W.heap.size W W' → DataW.Trod enc Try.prog W' 0 (fun b => decide (b < W.heap.size)) true 22 (.slice a0 len cap) d0 p0 :=
    fun W' hn => Below.trod Try.laidOut (by kernel_rfl) (of_decide_eq_true (by kernel_rfl)) h0k hn hlt
  have hm : 0 ≤ m ∧ m < 256 := by
    have h1 : IntKind.u8.min = 0 := rfl
    have h2 : IntKind.u8.max = 255 := rfl
    simp only [Lit.wf, Bool.and_eq_true, decide_eq_true_eq] at wm
    omega
  obtain ⟨tag, rfl⟩ : ∃ tag : UInt8, m = (tag.toNat : Int) := ⟨UInt8.ofNat m.toNat, by
    simp only [UInt8.toNat_ofNat']
    omega⟩
  have fin : ∀ (xs : List ByteArray), xs.length = len → Dig.Strs W a0 xs → len ≤ cap → len ≤ 4611686018427387904 → (∀ x ∈ xs, x.size ≤ 4611686018427387904) →
      Calls Try.checked.prog 3 #[.slice a0 len cap, .int .u8 tag.toNat] W fun e W' => ∃ v, e = Ending.returned v ∧ Rows.digestTellsSpec.post enc Try.checked.prog Try.f3 false true false false W #[.slice a0 len cap, .int .u8 tag.toNat] v W' := by
    rintro xs rfl hs hc hn hx
    refine (RefSum.tells_any tag a0 cap xs W hs hc hn hx).mono fun e W' ⟨he, hnx⟩ => ?_
    subst he
    refine ⟨_, rfl, _, _, _, [], p0 ++ [], [], hW', ?_, trodAll_mk2 (hargs _ hnx) (shut_int Try.underlying5 wm), rfl, hnx.frame _, fun h => by cases h⟩
    exact trodAll_mk1 (shut_bool Try.underlying4 true)
  rcases open_strings Try.underlying22 Try.underlying9 Try.cells9 hf with ⟨hcs, _⟩ | ⟨a, len', cap', ss, hcs, _, hl, hmx, hz, hx, hcell, hsz⟩
  · simp [Value.cells] at hcs
    obtain ⟨rfl, rfl, rfl⟩ := hcs
    exact fin [] rfl (RefSum.nil_strs' W none) (Nat.le_refl _) (by decide) (by simp)
  · simp [Value.cells] at hcs
    obtain ⟨rfl, rfl, rfl⟩ := hcs
    simp only [if_true] at hz
    simp only [Prod.mk.injEq] at hx
    obtain ⟨rfl, rfl⟩ := hx
    have hrb : reachBytes < 2 ^ 47 := reachBytes_lt
    have hl2 : (ss.take len).length = len := by rw [List.length_take]; omega
    have hlen : len ≤ 4611686018427387904 := by
      have := sized_slice hszz (j := 0) (t := 22) (e := 9) rfl rfl Try.underlying22
      rw [show Try.prog.bytesOf 9 = 16 by kernel_rfl] at this
      simp only [strs, List.length_map, List.length_take, List.length_drop] at this
      omega
    refine fin (ss.take len) hl2 ?_ hl hlen (fun x hx => by
      have := sized_text hszz (j := 0) (t := 22) (e := 9) rfl rfl Try.underlying22 x (List.mem_map.2 ⟨x, hx, rfl⟩)
      omega)
    refine Go.Proofs.YtenlokbfjajbbaaW.PrintWords.Kd.C_of_reads (d := ByteArray.empty) ⟨rfl, by rw [hl2]; omega, fun _ => ⟨a, rfl, fun j hj => ?_⟩⟩
    rw [hl2] at hj
    have := hcell j (by omega)
    rw [this]
    simp [List.getD_eq_getElem?_getD, List.getElem?_take, hj]

theorem digestTells_holds : Rows.DigestTellsSaid :=
  OpenClaim.holds_of_wide 3 Try.f3 rfl rfl rfl rfl rfl rfl rfl ⟨rfl, rfl, rfl, rfl, rfl⟩ rfl rfl rfl rfl rfl (by kernel_rfl) Try.func3 (by kernel_rfl)
    (of_decide_eq_true (by kernel_rfl)) (by unfold Func.isWrapper; first | (rw [if_pos (by decide +kernel)]; kernel_rfl) | (rw [if_neg (by decide +kernel)]; exact ⟨rfl, rfl⟩))
    (fun os started H enc _ => digestTells_lifted os started H enc)
end Go.Proofs.Ytenlokbfjajbbaa
