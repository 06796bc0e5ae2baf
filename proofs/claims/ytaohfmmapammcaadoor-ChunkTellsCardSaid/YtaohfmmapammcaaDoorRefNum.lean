/- The reference's Number. Conditions: the number is not below nought, at most 64 bytes. -/
import Derived.Test.YtaohfmmapammcaaDoorRefDefs
set_option linter.unusedSimpArgs false
set_option linter.unusedVariables false
namespace Go.Proofs.YtaohfmmapammcaaDoor.RefSum
open Go Go.RowKit Go.Proofs.YtaohfmmapammcaaDoor.Sha Go.Proofs.YtaohfmmapammcaaDoorW.PrintWords Go.Proofs.YtaohfmmapammcaaDoorW.PrintLast Go.Proofs.YtaohfmmapammcaaDoor.PChunkTells Go.Proofs.YtaohfmmapammcaaDoor.Reg Go.Proofs.YtaohfmmapammcaaDoor.Ev Go.Proofs.YtaohfmmapammcaaDoor.Press Go.Proofs.YtaohfmmapammcaaDoor.Dig

theorem strOf_app (a b : List Int) : strOfNums a ++ strOfNums b = strOfNums (a ++ b) := by
  apply ByteArray.ext
  simp [strOfNums, ByteArray.data_append]
theorem strOf_size (a : List Int) : (strOfNums a).size = a.length := by simp [strOfNums, ByteArray.size]

theorem rnum_loop : ∀ (m k : Nat) (v n i : Int) (tail : List Int), n = (m : Int) + i → 0 ≤ i → n ≤ 64 → m < k → 0 ≤ v → v ≤ 9223372036854775807 → tail.length + m ≤ 64 →
    snapferryref01_Number.l0 k v n (strOfNums tail) i = some (strOfNums (numL m v ++ tail)) := by
  intro m
  induction m with
  | zero =>
    intro k v n i tail hn hi hn2 hk _ _ _
    obtain ⟨k, rfl⟩ : ∃ j, k = j + 1 := ⟨k - 1, by omega⟩
    simp only [snapferryref01_Number.l0]
    rw [if_neg (by omega)]
    simp [numL]
  | succ m ih =>
    intro k v n i tail hn hi hn2 hk hv hv2 ht
    obtain ⟨k, rfl⟩ : ∃ j, k = j + 1 := ⟨k - 1, by omega⟩
    simp only [snapferryref01_Number.l0]
    have h1 : Int.tmod v 256 % 256 = v % 256 := by
      rw [Int.tmod_eq_emod_of_nonneg hv]; omega
    have h2 : wrap64 (Int.tdiv v 256) = v / 256 := by
      rw [Int.tdiv_eq_ediv_of_nonneg hv]; unfold wrap64; omega
    have h3 : wrap64 (i + 1) = i + 1 := by unfold wrap64; omega
    rw [if_pos (by omega), Option.bind_some, h1, h2, h3, strOf_app, if_pos (by rw [strOf_size, strOf_size]; simp; omega), ih k (v / 256) n (i + 1) _ (by omega) (by omega) hn2 (by omega) (by omega) (by omega) (by simp; omega)]
    simp [numL]

theorem rnum_any (v n : Int) (hv : 0 ≤ v) (hv2 : v ≤ 9223372036854775807) (h0 : 0 ≤ n) (h1 : n ≤ 64) (w : World) :
    Calls Tryd.prog 38 #[.int .i64 v, .int .i64 n] w fun e w' => e = .returned (.string (bs (numB n.toNat v))) ∧ Below w.heap.size w w' := by
  refine snapferryref01_Number.calls (n.toNat + 1) v n (bs (numB n.toNat v)) w ?_
  unfold snapferryref01_Number.f
  have := rnum_loop n.toNat (n.toNat + 1) v n 0 [] (by omega) (by omega) h1 (by omega) hv hv2 (by simp; omega)
  rw [List.append_nil] at this
  simpa [numB, strOfNums] using this

set_option maxHeartbeats 1000000 in
set_option maxRecDepth 100000 in
theorem rconst_any (w : World) : Calls Tryd.prog 39 #[] w fun e w' => e = .returned (.agg (nums .u32 kT).toArray) ∧ Below w.heap.size w w' := by
  go_enter Tryd.func39, Tryd.ntmps39
  go_wp2_with (first | ((with_reducible refine gate_dst (N := 0) rfl ?_); refine ev_alloc rfl 63 rfl _ (nums .u32 z64) zero83 rfl ?_; intro gw w1 hgw f1 bw) | ((with_reducible refine gate_store (t := 63) (p := 0) rfl ?_); refine ev_store_row rfl 63 (.tmp 0) (.tmp 1) rfl gw (nums .u32 kT).toArray rfl rfl 63 _ bw size83 rfl (nums_one kT) ?_; intro w2 f2 b2))
  refine bodyPost_ret (v := .agg (nums .u32 kT).toArray) (results_cell_row rfl _ _ gw 63 (nums .u32 kT).toArray (0, 0) _ rfl b2.out Tryd.underlying63 rfl size83) rfl ⟨rfl, (f1.one f2 (.inr hgw)).below⟩
end Go.Proofs.YtaohfmmapammcaaDoor.RefSum
